/- Part 12 of the proof of: the statements about chapter 8 -/
import Derived.WalkKit
import Derived.Lib.Walk
import Derived.LoopN
import Derived.Shelf.Slices.Empties
import Derived.Lib.AppendZerosOnto
import Derived.Lib.SliceRun
import Derived.Test.YtcbabnbiinkafaaGreatDoorBn11
set_option linter.all false
section
open Go Go.Am
open Go.Am.Dat (cells)
namespace Go.Proofs.YtcbabnbiinkafaaGreatDoor
set_option maxHeartbeats 4000000
set_option maxRecDepth 100000
theorem tA {n:Nw} {m:Ms} {e:T3} (hn:NetOk n) (hlt:m.buf.length=n.cells.length) (hp:isC n m.path=true) (hs:isC n m.serving=true) (hsc:m.source≠-1→isC n m.source=true) (ht:m.target≠-1→isC n m.target=true)
 (hc1:m.target≠-1→nbr n m.target m.serving=true) (hc2:m.source≠-1→nbr n m.source m.serving=true) (hb:m.source≠-1→m.path=m.serving→dP m m.source≠[])
 (h6:e.x=6→m.target≠-1∧m.path=m.serving) (hk:0≤e.x∧e.x≤11) (h7:e.x≠7) (h8:e.x≠8):settle (eJ m e)=eJ m e:=by
 have hi:fT (eJ m e)=false:=by
  have key:∀ m':Ms,(m'.source≠-1→m'.path=m'.serving→dP m' m'.source≠[])→fT m'=false:=fun m' h=>by
   cases hq:fT m' with
   | false=>rfl
   | true=>
    simp only [fT,Bool.and_eq_true,decide_eq_true_eq,List.isEmpty_iff] at hq
    exact absurd hq.2 (h hq.1.1 hq.1.2)
  refine key _ ?_
  have k:e.x=0∨e.x=1∨e.x=2∨e.x=3∨e.x=4∨e.x=5∨e.x=6∨e.x=9∨e.x=10∨e.x=11:=by omega
  have hsv:=fR hs
  unfold eJ
  rcases k with k | k | k | k | k | k | k | k | k | k <;> rw [k] <;> simp only [Int.reduceEq,if_true,if_false]
  · intro h1 h2 h3
    have h3':(m.buf.set m.path.toNat (dP m m.path++[m.fresh])).getD m.source.toNat []=[]:=h3
    rw [fy] at h3'
    split at h3'
    · simp at h3'
    · exact hb h1 h2 h3'
  · split
    · exact hb
    · exact hb
  · intro h1 h2 h3
    have h3':(m.buf.set m.serving.toNat (frm (dP m m.serving) m.got)).getD m.source.toNat []=[]:=h3
    have hsr:=fR (hsc h1)
    have hne:=hn.ne _ _ (hc2 h1)
    rw [fy,if_neg (by omega)] at h3'
    exact hb h1 h2 h3'
  · exact hb
  · exact hb
  · exact hb
  · intro h1 h2
    obtain ⟨q1,q2⟩:=h6 k
    have hne:=hn.ne _ _ (hc1 q1)
    have h2':m.path=m.target:=h2
    omega
  · exact hb
  · exact hb
  · exact hb
 unfold Go.Proofs.YtcbabnbiinkafaaGreatDoor.settle
 rw [if_neg (by rw [hi]; simp)]
end Go.Proofs.YtcbabnbiinkafaaGreatDoor
end
section
open Go Go.Am Go.RowKit
open Go.Am.Dat (cells)
namespace Go.Proofs.YtcbabnbiinkafaaGreatDoor
set_option maxHeartbeats 4000000
set_option maxRecDepth 100000
theorem CEv.of_ev {P:Program} {E E':Env} {U U':Nat→Prop} {w w':World} {ch ch':Chs} {m:List (Nat×Sb)} {d:Nat} (he:Ev E U w ch m d E' U' w' ch') (hk:∀ p∈ch',100000≤p.1) (hd:d < 100000):CEv E U w ch E' U' w' ch':=
 ⟨he.os,he.tape,he.output,he.size,he.keep,he.rest,he.live,he.newU,fun k cs h _=>by
  rcases he.boxes k cs h with q | q
  · have:=hk _ h; simp only at this; omega
  · exact q,he.inv⟩
theorem fX {α:Type} [Inhabited α] (en:α→Value) (w:World) (blk off:Nat) (d:Array α) (b:Nat):(Sort.putRow en w blk off d).heap[b]? = if blk=b then (w.heap[b]?).map (Sort.onCells (Sort.putCells en off d)) else w.heap[b]?:=by
 simp only [Sort.putRow,Sort.mapBlock,Array.getElem?_modify]
theorem iE {U:Nat→Prop} {h:Array Obj} {y:KE0} {ty:TypeId} {xs:List Int} (hr:ff U h y 1 ty (xs.map Dat.cells)) (hn:y.nil=false):xs.length≤y.cap∧y.cap≤maxLen∧∃ arr,h[y.blk]? = some (.cells arr ty (0,0))∧y.off+y.cap≤arr.size∧∀ (j:Nat) x,xs[j]? = some x→arr[y.off+j]? = some (.int .i64 x):=by
 obtain ⟨h1,h2,h3,h4⟩:=hr
 rcases h4 with ⟨g1,_⟩ | ⟨_,g2,g3,arr,g4,g5,g6⟩
 · rw [hn] at g1; cases g1
 refine ⟨by simpa using g2,g3,arr,g4,by omega,fun j x hj=>?_⟩
 have e1:(xs.map Dat.cells)[j]? = some [C.s (.int .i64 x)]:=by rw [List.getElem?_map,hj]; rfl
 obtain ⟨r1,_⟩:=g6 j _ 0 _ e1 rfl
 have r2:=oB r1
 have hjl:=(List.getElem?_eq_some_iff.1 hj).1
 have e2:y.off+j*1+0=y.off+j:=by omega
 rw [e2] at r2
 have hlt:y.off+j < arr.size:=by simp at g2; omega
 rw [Array.getD_eq_getD_getElem?,Array.getElem?_eq_getElem hlt] at r2
 rw [Array.getElem?_eq_getElem hlt]
 simpa using r2
theorem pX {U:Nat→Prop} {w:World} {y:KE0} {ty:TypeId} {xs:List Int} (hr:ff U w.heap y 1 ty (xs.map Dat.cells)) (hn:y.nil=false):Sort.Holds (Value.int .i64) w y.blk y.off xs.toArray:=by
 obtain ⟨_,_,arr,g4,_,g6⟩:=iE hr hn
 intro j hj
 have hj':j < xs.length:=by simpa using hj
 have:=g6 j xs[j] (List.getElem?_eq_getElem hj')
 refine ⟨?_,?_⟩
 · simp only [World.cell?,g4]
   simpa [hj'] using this
 · simp [World.frozen?,g4]
theorem sJ {U:Nat→Prop} {h h1:Array Obj} {y:KE0} {ty:TypeId} {xs:List Int} {d:Array Int} {arr:Array Value} (hr:ff U h y 1 ty (xs.map Dat.cells)) (hn:y.nil=false) (ha:h[y.blk]? = some (.cells arr ty (0,0))) (h1b:h1[y.blk]? = some (.cells (Sort.putCells (Value.int .i64) y.off d arr) ty (0,0)))
 (zs:List Int) (hz:zs.length≤d.size) (hd:d.size≤xs.length) (hzd:∀ (j:Nat) x,zs[j]? = some x→d[j]? = some x):ff U h1 { y with len:=zs.length } 1 ty (zs.map Dat.cells):=by
 obtain ⟨c1,c2,arr',c3,c4,_⟩:=iE hr hn
 rw [ha] at c3; cases c3
 refine ⟨by simp,hr.2.1,fun i e he=>?_,.inr ⟨hn,?_,c2,_,h1b,?_,fun i e j c he hj=>?_⟩⟩
 · rw [List.getElem?_map,Option.map_eq_some_iff] at he
   obtain ⟨x,_,rfl⟩:=he; rfl
 · simp only [List.length_map]; omega
 · simp only [Sort.putCells,Array.size_mapIdx,Nat.mul_one]; omega
 · rw [List.getElem?_map,Option.map_eq_some_iff] at he
   obtain ⟨x,hx,rfl⟩:=he
   have hil:=(List.getElem?_eq_some_iff.1 hx).1
   cases j with
   | succ j=>simp [Dat.cells] at hj
   | zero=>
    have hc:c=.s (.int .i64 x):=by
     have:(Dat.cells x:List C)=[.s (.int .i64 x)]:=rfl
     rw [this] at hj; simpa using hj.symm
    subst hc
    have hlt:y.off+i < arr.size:=by omega
    have hv:(Sort.putCells (Value.int .i64) y.off d arr).getD (y.off+i*1+0) undef=.int .i64 x:=by
     have e:y.off+i*1+0=y.off+i:=by omega
     rw [e,Array.getD_eq_getD_getElem?]
     simp only [Sort.putCells,Array.getElem?_mapIdx,Array.getElem?_eq_getElem hlt,Option.map_some,Option.getD_some]
     rw [if_pos ⟨by omega,by omega⟩,show y.off+i - y.off=i by omega]
     have:=hzd i x hx
     congr 1
     have hdl:i < d.size:=by omega
     rw [Array.getElem?_eq_getElem hdl] at this
     rw [getElem!_pos d i hdl]
     simpa using this
    rw [hv]
    exact ⟨.s _,rfl⟩
theorem args2 {aS:Array Value} {a b:Value} (hs:aS.size=2) (h0:aS.getD 0 undef=a) (h1:aS.getD 1 undef=b):aS=#[a,b]:=by
 refine Array.ext (by simpa using hs) (fun i h2 h3=>?_)
 simp at h3
 rw [Array.getD_eq_getD_getElem?] at h0 h1
 match i,h2,h3 with
 | 0,h2,_=>rw [Array.getElem?_eq_getElem h2] at h0; exact h0
 | 1,h2,_=>rw [Array.getElem?_eq_getElem h2] at h1; exact h1
theorem args1 {aS:Array Value} {a:Value} (hs:aS.size=1) (h0:aS.getD 0 undef=a):aS=#[a]:=by
 refine Array.ext (by simpa using hs) (fun i h2 h3=>?_)
 simp at h3
 rw [Array.getD_eq_getD_getElem?] at h0
 match i,h2,h3 with
 | 0,h2,_=>rw [Array.getElem?_eq_getElem h2] at h0; exact h0
def fP (xs:List Int):List Int:=xs.mergeSort fun x y=>decide (x≤y)
end Go.Proofs.YtcbabnbiinkafaaGreatDoor
end
section
open Go Go.Am Go.RowKit Go.Lib Go.Proofs
open Go.Am.Dat (cells)
namespace Go.Proofs.YtcbabnbiinkafaaGreatDoor
set_option maxHeartbeats 4000000
set_option maxRecDepth 100000
theorem clo183 (W:World) (x got:Int) (b3 bp:Nat) (h1:W.cell? ⟨b3,0,none⟩=some (.pointer (some ⟨bp,0,none⟩))) (h2:W.cell? ⟨bp,8,none⟩=some (.int .i64 got)) :
 Calls Tryz.prog 183 #[.int .i64 x,.pointer (some ⟨b3,0,none⟩)] W fun e w'=>e=.returned (.bool (decide (x < got)))∧w'=W:=by
 go_enter Tryz.func183,Tryz.ntmps183
 go_wp2
 go_ret
 exact ⟨rfl,rfl⟩
theorem clo280 (W:World) (x got:Int) (b3 bp:Nat) (h1:W.cell? ⟨b3,0,none⟩=some (.pointer (some ⟨bp,0,none⟩))) (h2:W.cell? ⟨bp,8,none⟩=some (.int .i64 got)) :
 Calls Tryz.prog 280 #[.int .i64 x,.pointer (some ⟨b3,0,none⟩)] W fun e w'=>e=.returned (.bool (decide (x < got)))∧w'=W:=by
 go_enter Tryz.func280,Tryz.ntmps280
 go_wp2
 go_ret
 exact ⟨rfl,rfl⟩
theorem idx_nil (v:Value) (w:World):Calls Tryz.prog 202 #[.slice none 0 0,v] w fun e w'=>e=.returned (.int .i64 (-1))∧w'=w:=by
 go_enter Tryz.func202,Tryz.ntmps202
 go_wp2
 refine wp_loop_rounds 1 ?_
 rw [rounds_succ]
 go_wp2
 go_ret
 exact ⟨rfl,rfl⟩
theorem del_nil (v:Value) (w:World):Calls Tryz.prog 182 #[.slice none 0 0,v] w fun e w'=>e=.returned (.slice none 0 0)∧w'=w:=by
 have e202:∀ args w,(callFunc 202 args).run Tryz.prog w=.ok (.enter 202 args) w:=enters_of Tryz.func202 (by kernel_rfl) rfl
 go_enter Tryz.func182,Tryz.ntmps182
 go_wp2_with (go_at_fn 202; refine (idx_nil _ _).mono ?_; rintro e w' ⟨rfl,rfl⟩)
 go_ret
 exact ⟨rfl,rfl⟩
def qh (g:Nat):Prop:=(∀ args w,(callFunc g args).run Tryz.prog w=.ok (.enter g args) w)∧∀ (W:World) (x got:Int) (b3 bp:Nat),W.cell? ⟨b3,0,none⟩=some (.pointer (some ⟨bp,0,none⟩))→W.cell? ⟨bp,8,none⟩=some (.int .i64 got) →
 Calls Tryz.prog g #[.int .i64 x,.pointer (some ⟨b3,0,none⟩)] W fun e w'=>e=.returned (.bool (decide (x < got)))∧w'=W
theorem vD : qh 183:=⟨enters_of Tryz.func183 (by kernel_rfl) rfl,fun W x got b3 bp h1 h2=>clo183 W x got b3 bp h1 h2⟩
theorem vE : qh 280:=⟨enters_of Tryz.func280 (by kernel_rfl) rfl,fun W x got b3 bp h1 h2=>clo280 W x got b3 bp h1 h2⟩
theorem s8 (xs:List Int) (got:Int):(xs.filter fun x=>!(decide (x < got)))=frm xs got:=by
 unfold frm
 congr 1
 funext x
 by_cases h:x < got
 · have:¬ got≤x:=by omega
   simp [h,this]
 · have:got≤x:=by omega
   simp [h,this]
theorem oneI : OneCell (Value.int .i64):=fun x=>rfl
theorem pT : ∀ (l:List Int) (x:Int),l.Pairwise (·≤·)→fZ l x=l.take (l.countP (· < x))++x :: l.drop (l.countP (· < x))
 | [],x,_=>by simp [fZ]
 | y :: l,x,h=>by
  rw [List.pairwise_cons] at h
  rw [fZ]
  by_cases hx:y < x
  · rw [if_pos hx,List.countP_cons_of_pos (by simpa using hx),List.take_succ_cons,List.drop_succ_cons,pT l x h.2,List.cons_append]
  · have h0:(y :: l).countP (· < x)=0:=by
     rw [List.countP_eq_zero]
     intro z hz
     rcases List.mem_cons.1 hz with rfl | hz
     · simpa using hx
     · have:=h.1 z hz; simp; omega
    rw [if_neg hx,h0]; simp
def ld (l:List Int) (x:Int):Nat:=l.countP (· < x)
theorem cntL_le (l:List Int) (x:Int):ld l x≤l.length:=List.countP_le_length
theorem vY {E:Env} {U:Nat→Prop} {w:World} {xs:List Int} {v:Value} (h:Rep E U w.heap (enc xs) v) (hU:∀ b,U b→b < w.heap.size) :
 (xs=[]∧∃ a c,v=.slice a 0 c)∨∃ b off cap,v=.slice (some ⟨b,off,none⟩) xs.length cap∧xs.length≤cap∧cap≤maxLen∧b < w.heap.size∧∀ (j:Nat) x,xs[j]? = some x→w.cell? ⟨b,off+j,none⟩=some (.int .i64 x):=by
 have h:Rep E U w.heap (.sl 1 (xs.map Dat.cells)) v:=h
 generalize he:xs.map Dat.cells=es at h
 cases h with
 | d hd=>
  cases hd with
  | sl0 _ a cap hc=>
   refine .inl ⟨by simpa using he,a,cap,rfl⟩
  | sl _ b off cap _ arr ty fz vf hUb hb hcap hmax hsz hv hr=>
   have hl:es.length=xs.length:=by rw [← he,List.length_map]
   refine .inr ⟨b,off,cap,by rw [hl],by omega,hmax,hU b hUb,fun j x hj=>?_⟩
   have h1:es[j]? = some [C.s (.int .i64 x)]:=by rw [← he,List.getElem?_map,hj]; rfl
   obtain ⟨h2,_⟩:=hv j _ 0 _ h1 rfl
   have h3:=hr j _ 0 _ h1 rfl
   have h4:vf j 0=.int .i64 x:=by generalize vf j 0=q at h3; cases h3; rfl
   rw [h4] at h2
   have e:off+j*1+0=off+j:=by omega
   rw [e] at h2
   simp only [World.cell?,hb]
   simpa using h2
theorem o4 (xs:List Int) (x:Int) (hs:xs.Pairwise (·≤·)) (h:xs.length≤1000000):FC Tryz.prog 282 [enc xs,enc x] [] (.tup [.s (.int .i64 (ld xs x:Nat)),enc (xs.contains x)]) []:=by
 refine ⟨⟨_,Tryz.func282,by kernel_rfl,by kernel_rfl⟩,fun E U aS w hg ha hi=>?_⟩
 obtain ⟨hsz,hr⟩:=ha
 have h0:=hr 0 _ rfl
 have h1:=dJ (hr 1 _ rfl)
 have fin:∀ (w':World) (n:Nat) (b:Bool),n=ld xs x→b=xs.contains x→RowKit.Below w.heap.size w w'→∃ v E' U',Ending.returned (.tuple #[.int .i64 (n:Int),.bool b])=.returned v∧Rep E' U' w'.heap (.tup [.s (.int .i64 (ld xs x:Nat)),enc (xs.contains x)]) v∧CEv E U w [] E' U' w' []:=by
  rintro w' n b rfl rfl hb
  refine ⟨_,E,U,rfl,.tup _ _ rfl (fun j c hj=>?_),CEv.below hi hb⟩
  match j,hj with
  | 0,hj=>cases hj; exact .d (.s _)
  | 1,hj=>cases hj; exact .d (.s _)
 rcases vY h0 hi.lt with ⟨rfl,a,c,e⟩ | ⟨b,off,cap,e,hcap,hmx,hb,hcell⟩
 · rw [args2 hsz e h1]
   refine (Any.slices_BinarySearch_int_empty Tryz.laysNm225 a c x w).mono ?_
   rintro e w' ⟨rfl,rfl⟩
   exact fin w' 0 false rfl rfl (.refl _ _)
 · rw [args2 hsz e h1]
   refine (Any.slices_BinarySearch_int Tryz.laysNm225 b off xs.length cap xs x w (Nat.le_refl _) (by omega) (fun j hj=>?_) (by rw [List.take_length]; exact hs)).mono ?_
   · rw [List.getD_eq_getElem?_getD,List.getElem?_eq_getElem hj]
     exact hcell j _ (List.getElem?_eq_getElem hj)
   · rintro e w' ⟨rfl,q,rfl⟩
     rw [List.take_length]
     exact fin _ _ _ rfl rfl ⟨rfl,rfl,rfl,Nat.le_refl _,fun b _=>rfl⟩
theorem fb (b:Nat):∀ (vs:List Value) (o:Nat) (w:World) (arr:Array Value) (ty:TypeId) (fz:Nat×Nat),w.heap[b]? = some (.cells arr ty fz) →
 ∃ arr',(w.setCells b o vs).heap[b]? = some (.cells arr' ty fz)∧arr'.size=arr.size∧∀ k:Nat,k < arr.size→arr'[k]? = if o≤k∧k < o+vs.length then vs[k - o]? else arr[k]?
 | [],o,w,arr,ty,fz,h=>⟨arr,h,rfl,fun k hk=>by rw [if_neg (by rintro ⟨h1,h2⟩; simp only [List.length_nil] at h2; omega)]⟩
 | v :: r,o,w,arr,ty,fz,h=>by
  have h1:(w.setCell ⟨b,o,none⟩ v).heap[b]? = some (.cells (arr.setIfInBounds o v) ty fz):=by
   rw [Sort.setCell_eq]
   simp only [Sort.mapBlock,Array.getElem?_modify,if_true,h]
   rfl
  obtain ⟨arr',a1,a2,a3⟩:=fb b r (o+1) _ _ ty fz h1
  refine ⟨arr',a1,by rw [a2]; simp,fun k hk=>?_⟩
  rw [a3 k (by simpa using hk)]
  by_cases hk0:k=o
  · subst hk0
    rw [if_neg (by omega),if_pos ⟨Nat.le_refl _,by simp⟩]
    simp [hk]
  · by_cases hk1:o+1≤k∧k < o+1+r.length
    · rw [if_pos hk1,if_pos ⟨by omega,by simp; omega⟩]
      have:k - o=k - (o+1)+1:=by omega
      rw [this,List.getElem?_cons_succ]
    · rw [if_neg hk1,if_neg (by simp; omega)]
      rw [Array.getElem?_setIfInBounds,if_neg (by omega)]
theorem fM (b:Nat) (vs:List Value) (o:Nat) (w:World) (i:Nat) (h:i≠b):(w.setCells b o vs).heap[i]? = w.heap[i]?:=by
 induction vs generalizing o w with
 | nil=>rfl
 | cons v r ih=>
  rw [World.setCells,ih,Sort.setCell_eq]
  simp only [Sort.mapBlock,Array.getElem?_modify]
  rw [if_neg (fun e=>h e.symm)]
theorem ik (b:Nat) (vs:List Value) (o:Nat) (w:World):(w.setCells b o vs).heap.size=w.heap.size:=by
 induction vs generalizing o w with
 | nil=>rfl
 | cons v r ih=>rw [World.setCells,ih,Sort.setCell_eq]; simp [Sort.mapBlock]
theorem gL (b:Nat) (vs:List Value) (o:Nat) (w:World):(w.setCells b o vs).os=w.os∧(w.setCells b o vs).tape=w.tape∧(w.setCells b o vs).output=w.output:=by
 induction vs generalizing o w with
 | nil=>exact ⟨rfl,rfl,rfl⟩
 | cons v r ih=>
  rw [World.setCells]
  exact ih _ _
theorem wA {P:Program} [Glob P] {E:Env} {U:Nat→Prop} {w w1:World} {k:Nat} {ty:TypeId} {xs zs:List Int} {rest:Chs} (hi:Inv E U w.heap ((k,.row 1 ty (xs.map Dat.cells)) :: rest)) (hk:∀ p∈((k,Ch.row 1 ty (xs.map Dat.cells)) :: rest),100000≤p.1) (hsub:ae [(k,.c .any)] rest=rest)
 (y:KE0) (hos:w1.os=w.os) (htp:w1.tape=w.tape) (hou:w1.output=w.output) (hsz:w.heap.size≤w1.heap.size)
 (hold:∀ b,b < w.heap.size→((E k).nil=false→b≠(E k).blk)→w1.heap[b]? = w.heap[b]?) (hy:y.nil=false) (hyb:(w.heap.size≤y.blk∧y.blk < w1.heap.size)∨((E k).nil=false∧y.blk=(E k).blk)) (hys:y.sz=1) (hyl:y.len=zs.length) (hyc:zs.length≤y.cap) (hcm:y.cap≤maxLen)
 {arr:Array Value} (ha:w1.heap[y.blk]? = some (.cells arr ty (0,0))) (hoc:y.off+y.cap≤arr.size) (hzd:∀ (j:Nat) x,zs[j]? = some x→arr[y.off+j]? = some (.int .i64 x)) :
 ∃ E',(E' k).toKE0=y∧CEv E U w ((k,.row 1 ty (xs.map Dat.cells)) :: rest) E' U w1 ((k,.row 1 ty (zs.map Dat.cells)) :: rest):=by
 have hl:lk ((k,Ch.row 1 ty (xs.map Dat.cells)) :: rest) k=some (.row 1 ty (xs.map Dat.cells)):=by simp [lk]
 obtain ⟨hrow,hfp⟩:=hi.ok k _ (dG hl)
 have he:=Ev.rekey (w1:=w1) (c1:=.row 1 ty (zs.map Dat.cells)) (x:=ke0 y) hi hl hos htp hou hsz (fun b hb hnb=>hold b hb (fun hn e=>hnb ((hfp.fp _).2 (.inl ⟨hn,e.symm⟩)))) (fun b hb=>by
  have hb2:y.blk=b:=hb.2
  rcases hyb with q | ⟨q1,q2⟩
  · exact .inl (by omega)
  · exact .inr ((hfp.fp _).2 (.inl ⟨q1,by rw [← q2]; exact hb2⟩))) (fun cs h=>by cases h) (fun hkeep=>by
  simp only [dM,updE_same]
  refine ⟨⟨by rw [List.length_map]; exact hyl,hys,fun i e h=>?_,.inr ⟨hy,by rw [List.length_map]; exact hyc,hcm,arr,ha,by rw [Nat.mul_one]; exact hoc,fun i e j c h hj=>?_⟩⟩,gA _⟩
  · rw [List.getElem?_map,Option.map_eq_some_iff] at h
    obtain ⟨x,_,rfl⟩:=h; rfl
  · rw [List.getElem?_map,Option.map_eq_some_iff] at h
    obtain ⟨x,hx,rfl⟩:=h
    cases j with
    | succ j=>simp [Dat.cells] at hj
    | zero=>
     have hc:c=.s (.int .i64 x):=by
      have:(Dat.cells x:List C)=[.s (.int .i64 x)]:=rfl
      rw [this] at hj; simpa using hj.symm
     subst hc
     have hv:arr.getD ((ke0 y).off+i*1+0) undef=.int .i64 x:=by
      have e:(ke0 y).off+i*1+0=y.off+i:=by show y.off+i*1+0=_; omega
      rw [e,Array.getD_eq_getD_getElem?,hzd i x hx]; rfl
     rw [hv]
     exact ⟨.s _,rfl⟩) 0
 refine ⟨_,?_,CEv.of_ev (P:=P) (d:=0) (by
  have e1:am (ae [(k,.c .any)] ((k,Ch.row 1 ty (xs.map Dat.cells)) :: rest)) k (.row 1 ty (zs.map Dat.cells))=(k,.row 1 ty (zs.map Dat.cells)) :: rest:=by
   simp only [ae,am,if_true,hsub]
  rw [e1] at he
  exact he) (fun p hp=>?_) (by decide)⟩
 · rw [updE_same]; rfl
 · rcases List.mem_cons.1 hp with rfl | hp
   · exact hk (k,Ch.row 1 ty (xs.map Dat.cells)) List.mem_cons_self
   · exact hk p (List.mem_cons_of_mem _ hp)
theorem args3 {aS:Array Value} {a b c:Value} (hs:aS.size=3) (h0:aS.getD 0 undef=a) (h1:aS.getD 1 undef=b) (h2:aS.getD 2 undef=c):aS=#[a,b,c]:=by
 refine Array.ext (by simpa using hs) (fun i h3 h4=>?_)
 simp at h4
 rw [Array.getD_eq_getD_getElem?] at h0 h1 h2
 match i,h3,h4 with
 | 0,h3,_=>rw [Array.getElem?_eq_getElem h3] at h0; exact h0
 | 1,h3,_=>rw [Array.getElem?_eq_getElem h3] at h1; exact h1
 | 2,h3,_=>rw [Array.getElem?_eq_getElem h3] at h2; exact h2
def jB (xs:List Int) (i:Nat) (x:Int):List Int:=xs.take i++x :: xs.drop i
theorem vX (xs:List Int) (i:Nat) (x:Int) (hi:i≤xs.length):(jB xs i x).length=xs.length+1:=by
 simp [jB]; omega
theorem ll (xs:List Int) (i:Nat) (x:Int) (hi:i≤xs.length) (j:Nat):(jB xs i x)[j]? = if j < i then xs[j]? else if j=i then some x else xs[j - 1]?:=by
 unfold jB
 rw [List.getElem?_append]
 have ht:(xs.take i).length=i:=by simp; omega
 rw [ht]
 by_cases h:j < i
 · rw [if_pos h,if_pos h,List.getElem?_take,if_pos h]
 · rw [if_neg h,if_neg h]
   by_cases h2:j=i
   · subst h2; simp
   · rw [if_neg h2]
     obtain ⟨q,hq⟩:∃ q,j - i=q+1:=⟨j - i - 1,by omega⟩
     rw [hq,List.getElem?_cons_succ,List.getElem?_drop]
     congr 1; omega
theorem vo (xs:List Int) (i:Nat) (x:Int) (hil:i≤xs.length) (h:xs.length≤1000000) :
 FC Tryz.prog 283 [.own 100000,.s (.int .i64 (i:Int)),.own 100001] [(100000,.row 1 3 (xs.map Dat.cells)),(100001,.row 1 3 [[.s (.int .i64 x)]])] (.own 100000) [(100000,.row 1 3 ((jB xs i x).map Dat.cells)),(100001,.row 1 3 [[.s (.int .i64 x)]])]:=by
 refine ⟨⟨_,Tryz.func283,by kernel_rfl,by kernel_rfl⟩,fun E U aS w hgl ha hi=>?_⟩
 obtain ⟨hs,hr⟩:=ha
 have a0:=eU (hr 0 _ rfl)
 have a1:=dJ (hr 1 _ rfl)
 have a2:=eU (hr 2 _ rfl)
 have hkk:∀ p∈[((100000:Nat),Ch.row 1 3 (xs.map Dat.cells)),(100001,.row 1 3 [[.s (.int .i64 x)]])],100000≤p.1:=fun p hp=>by
  simp at hp; rcases hp with rfl | rfl <;> simp
 obtain ⟨hrow,hfp⟩:=hi.ok 100000 _ List.mem_cons_self
 obtain ⟨hrow1,hfp1⟩:=hi.ok 100001 (.row 1 3 [[.s (.int .i64 x)]]) (by simp)
 have hn1:(E 100001).nil=false:=by
  rcases hrow1.2.2.2 with ⟨_,g⟩ | ⟨g,_⟩
  · cases g
  · exact g
 have hl1:(E 100001).len=1:=hrow1.1
 have hrow1':ff U w.heap (E 100001).toKE0 1 3 (([x]:List Int).map Dat.cells):=hrow1
 obtain ⟨u1,u2,arr1,u3,u4,u5⟩:=iE hrow1' hn1
 have hv0:∀ (j:Nat) v,[Value.int .i64 x][j]? = some v→w.cell? ⟨(E 100001).blk,(E 100001).off+j,none⟩=some v:=fun j v hj=>by
  cases j with
  | zero=>
   simp at hj; subst hj
   have:=u5 0 x rfl
   simp only [World.cell?,u3]; simpa using this
  | succ j=>simp at hj
 have h1v:∀ v∈[Value.int .i64 x],v.oneCell'=true:=fun v hv=>by simp at hv; subst hv; rfl
 have h1c:∀ v∈xs.map (Value.int .i64),v.oneCell'=true:=fun v hv=>by
  obtain ⟨y,_,rfl⟩:=List.mem_map.1 hv; rfl
 rw [args3 hs a0 a1 a2]
 have hl:=hrow.1
 simp only [List.length_map] at hl
 have hmx:maxLen=9223372036854775807:=by decide
 have o1:(E 100001).fp (E 100001).blk:=(hfp1.fp _).2 (.inl ⟨hn1,rfl⟩)
 have own1:slV (E 100001).toKE0=.slice (some ⟨(E 100001).blk,(E 100001).off,none⟩) 1 (E 100001).cap:=by simp [slV,hn1,hl1]
 rw [own1]
 have cellx:∀ (j:Nat) v,(xs.map (Value.int .i64))[j]? = some v→∃ y,xs[j]? = some y∧v=.int .i64 y:=fun j v hj=>by
  rw [List.getElem?_map,Option.map_eq_some_iff] at hj
  obtain ⟨y,h1,rfl⟩:=hj
  exact ⟨y,h1,rfl⟩
 have fin:∀ (y:KE0) (w1:World) (arr:Array Value),w1.os=w.os→w1.tape=w.tape→w1.output=w.output→w.heap.size≤w1.heap.size →
  (∀ b,b < w.heap.size→((E 100000).nil=false→b≠(E 100000).blk)→w1.heap[b]? = w.heap[b]?)→y.nil=false→((w.heap.size≤y.blk∧y.blk < w1.heap.size)∨((E 100000).nil=false∧y.blk=(E 100000).blk))→y.sz=1→y.len=xs.length+1→xs.length+1≤y.cap→y.cap≤maxLen →
  w1.heap[y.blk]? = some (.cells arr 3 (0,0))→y.off+y.cap≤arr.size→(∀ j:Nat,j < xs.length+1→arr[y.off+j]? = ((jB xs i x)[j]?).map (Value.int .i64)) →
  ∃ v E' U',Ending.returned (.slice (some ⟨y.blk,y.off,none⟩) y.len y.cap)=.returned v∧Rep E' U' w1.heap (.own 100000) v∧CEv E U w [(100000,.row 1 3 (xs.map Dat.cells)),(100001,.row 1 3 [[.s (.int .i64 x)]])] E' U' w1 [(100000,.row 1 3 ((jB xs i x).map Dat.cells)),(100001,.row 1 3 [[.s (.int .i64 x)]])]:=by
  intro y w1 arr q1 q2 q3 q4 q5 q6 q7 q8 q9 q10 q11 q12 q13 q14
  have hil2:=vX xs i x hil
  obtain ⟨E',e1,e2⟩:=wA (P:=Tryz.prog) (zs:=jB xs i x) hi hkk rfl y q1 q2 q3 q4 q5 q6 q7 q8 (by rw [hil2]; exact q9) (by rw [hil2]; exact q10) q11 q12 q13 (fun j z hj=>by
   have hjl:=(List.getElem?_eq_some_iff.1 hj).1
   rw [q14 j (by omega),hj]; rfl)
  refine ⟨_,E',U,rfl,?_,e2⟩
  have:=fun h=>Rep.own (E:=E') (U:=U) (h:=h) 100000
  simp only [slV,e1,q6,Bool.false_eq_true,if_false] at this
  exact this _
 have hrn:(Tryz.prog.info? 3).map (fun i=>(i.zero,i.size,i.bytes))=some (some (.int .i64 0),1,8):=by kernel_rfl
 cases hn:(E 100000).nil with
 | true=>
  have hx:xs=[]:=by
   rcases hrow.2.2.2 with ⟨_,g⟩ | ⟨g,_⟩
   · simpa using g
   · rw [hn] at g; cases g
  subst hx
  have hi0:i=0:=by simpa using hil
  subst hi0
  simp only [slV,hn,if_true]
  have hc:=Any2.slices_Insert_int_end_grow Tryz.laysNm221 none 0 0 (E 100001).blk (E 100001).off 1 (E 100001).cap [] [Value.int .i64 x] w (by decide) (by decide) (by decide) (by decide) rfl rfl (fun _=>rfl) (fun a h=>by cases h) hv0 h1v
  refine Calls.mono hc ?_
  rintro e w' ⟨rfl,rfl⟩
  have hge:1≤grownCap w (0+1) 0 3:=grownCap_ge w _ _ _
  have hle:grownCap w (0+1) 0 3≤maxLen:=grownCap_le_maxLen w _ 0 3 (by rw [hmx]; decide)
  have e0:Tryz.laysNm221_ren.t 3=3:=rfl
  simp only [e0]
  generalize grownCap w (0+1) 0 3=G at *
  refine fin ⟨w.heap.size,0,G,1,1,false⟩ (w.drew.alloc (.cells (([]++[Value.int .i64 x]).toArray++Builtin.zeroCells (Value.int .i64 0).cells (G - (0+1))) 3)) _ rfl rfl rfl (by simp) (fun b hb _=>RowKit.Below.heap_alloc w.drew _ b hb) rfl (.inl ⟨Nat.le_refl _,by simp⟩) rfl rfl hge hle (Go.heap_alloc_new w.drew _) ?_ (fun j hj=>?_)
  · simp [size_zeroCells,Value.cells]; omega
  · have:j=0:=by simpa using hj
    subst this
    simp only [jB,List.take_nil,List.drop_nil,List.nil_append,Nat.zero_add]
    rw [Array.getElem?_append_left (by simp)]
    simp
 | false=>
  obtain ⟨c1,c2,arr,c3,c4,c5⟩:=iE hrow hn
  have o0:(E 100000).fp (E 100000).blk:=(hfp.fp _).2 (.inl ⟨hn,rfl⟩)
  have hne:(E 100001).blk≠(E 100000).blk:=fun e=>hi.sep 100001 (.row 1 3 [[.s (.int .i64 x)]]) 100000 _ (by simp) List.mem_cons_self (by decide) _ o1 (e ▸ o0)
  simp only [slV,hn,Bool.false_eq_true,if_false,hl]
  have hcs:∀ (j:Nat) v,(xs.map (Value.int .i64))[j]? = some v→w.cell? ⟨(E 100000).blk,(E 100000).off+j,none⟩=some v:=fun j v hj=>by
   obtain ⟨y,h1,rfl⟩:=cellx j v hj
   have:=c5 j y h1
   simp only [World.cell?,c3]; simpa using this
  have hsp:∀ j,j < (E 100000).cap→(w.cell? ⟨(E 100000).blk,(E 100000).off+j,none⟩).isSome=true:=fun j hj=>by
   have:(E 100000).off+j < arr.size:=by omega
   simp [World.cell?,c3,this]
  have hfz:∀ j,w.frozen? ⟨(E 100000).blk,(E 100000).off+j,none⟩=false:=fun j=>by simp [World.frozen?,c3]
  have hblk:(E 100000).blk < w.heap.size:=lt_of_getElem? c3
  by_cases hin:i=xs.length
  · subst hin
    by_cases hroom:xs.length+1≤(E 100000).cap
    · refine (Any2.slices_Insert_int_end_room Tryz.laysNm221 (E 100000).blk (E 100000).off xs.length (E 100000).cap (E 100001).blk (E 100001).off 1 (E 100001).cap [Value.int .i64 x] w (by decide) hroom (by rw [← hmx]; exact c2) rfl (fun j hj=>?_) (fun j hj=>?_) hv0 h1v).mono ?_
      · have:=hsp (xs.length+j) (by omega)
        rwa [← Nat.add_assoc] at this
      · have:=hfz (xs.length+j)
        rwa [← Nat.add_assoc] at this
      rintro e w' ⟨rfl,rfl⟩
      obtain ⟨arr',a1,a2,a3⟩:=fb (E 100000).blk [Value.int .i64 x] ((E 100000).off+xs.length) w arr 3 (0,0) c3
      obtain ⟨e1,e2,e3⟩:=gL (E 100000).blk [Value.int .i64 x] ((E 100000).off+xs.length) w
      refine fin ⟨(E 100000).blk,(E 100000).off,(E 100000).cap,xs.length+1,1,false⟩ _ arr' e1 e2 e3 (by rw [ik]; exact Nat.le_refl _) (fun b hb hb2=>fM _ _ _ _ _ (hb2 hn)) rfl (.inr ⟨hn,rfl⟩) rfl rfl hroom c2 a1 (by rw [a2]; exact c4) (fun j hj=>?_)
      rw [a3 _ (by show (E 100000).off+j < arr.size; omega),ll _ _ _ (Nat.le_refl _)]
      show (if (E 100000).off+xs.length≤(E 100000).off+j∧_ then _ else _)=_
      by_cases hj2:j < xs.length
      · rw [if_neg (by omega),if_pos hj2,List.getElem?_eq_getElem hj2]
        exact c5 j _ (List.getElem?_eq_getElem hj2)
      · have hje:j=xs.length:=by omega
        subst hje
        rw [if_pos ⟨Nat.le_refl _,by simp⟩,if_neg (by omega),if_pos rfl]
        simp
    · have hc:=Any2.slices_Insert_int_end_grow Tryz.laysNm221 (some ⟨(E 100000).blk,(E 100000).off,none⟩) xs.length (E 100000).cap (E 100001).blk (E 100001).off 1 (E 100001).cap (xs.map (Value.int .i64)) [Value.int .i64 x] w (by decide) c1 (by omega) (by omega) (by simp) rfl (fun h=>by cases h) (fun a h j v hj=>by
       cases h
       have:=hcs j v hj
       rwa [← Addr.add_lit] at this) hv0 h1v
      refine Calls.mono hc ?_
      rintro e w' ⟨rfl,rfl⟩
      have hge:=grownCap_ge w (xs.length+1) (E 100000).cap 3
      have hle:grownCap w (xs.length+1) (E 100000).cap 3≤maxLen:=grownCap_le_maxLen w _ _ 3 (by rw [hmx]; omega)
      have e0:Tryz.laysNm221_ren.t 3=3:=rfl
      simp only [e0]
      generalize grownCap w (xs.length+1) (E 100000).cap 3=G at *
      refine fin ⟨w.heap.size,0,G,xs.length+1,1,false⟩ (w.drew.alloc (.cells ((xs.map (Value.int .i64)++[Value.int .i64 x]).toArray++Builtin.zeroCells (Value.int .i64 0).cells (G - (xs.length+1))) 3)) _ rfl rfl rfl (by simp) (fun b hb _=>RowKit.Below.heap_alloc w.drew _ b hb) rfl (.inl ⟨Nat.le_refl _,by simp⟩) rfl rfl hge hle (Go.heap_alloc_new w.drew _) ?_ (fun j hj=>?_)
      · simp [size_zeroCells,Value.cells]; omega
      · rw [ll _ _ _ (Nat.le_refl _)]
        simp only [Nat.zero_add]
        rw [Array.getElem?_append_left (by simp; omega)]
        by_cases hj2:j < xs.length
        · rw [if_pos hj2,List.getElem?_toArray,List.getElem?_append_left (by simpa using hj2),List.getElem?_map]
        · have hje:j=xs.length:=by omega
          subst hje
          simp
  · have hil2:i < xs.length:=by omega
    by_cases hroom:xs.length+1≤(E 100000).cap
    · refine (Any2.slices_Insert_int_shift Tryz.laysNm221 (E 100000).blk (E 100000).off xs.length (E 100000).cap i (E 100001).blk (E 100001).off 1 (E 100001).cap (xs.map (Value.int .i64)) [Value.int .i64 x] w hil2 (by decide) hroom (by rw [← hmx]; exact c2) hne (by simp) rfl hcs (fun j hj=>hsp j (by omega)) (fun j _=>hfz j) hv0 h1c h1v
       3 3 arr1.size arr.size (by simp [World.shape?,u3]) (by simp [World.shape?,c3]) (by omega) (by simp [World.frozen?,u3]) (by simp [World.frozen?,u3])).mono ?_
      rintro e w' ⟨rfl,rfl⟩
      have c3':w.drew.heap[(E 100000).blk]? = some (.cells arr 3 (0,0)):=c3
      obtain ⟨arr',a1,a2,a3⟩:=fb (E 100000).blk ((xs.map (Value.int .i64)).drop i) ((E 100000).off+(i+1)) w.drew arr 3 (0,0) c3'
      obtain ⟨arr2,b1,b2,b3⟩:=fb (E 100000).blk [Value.int .i64 x] ((E 100000).off+i) _ arr' 3 (0,0) a1
      obtain ⟨e1,e2,e3⟩:=gL (E 100000).blk ((xs.map (Value.int .i64)).drop i) ((E 100000).off+(i+1)) w.drew
      obtain ⟨g1,g2,g3⟩:=gL (E 100000).blk [Value.int .i64 x] ((E 100000).off+i) (w.drew.setCells (E 100000).blk ((E 100000).off+(i+1)) ((xs.map (Value.int .i64)).drop i))
      refine fin ⟨(E 100000).blk,(E 100000).off,(E 100000).cap,xs.length+1,1,false⟩ _ arr2 (g1.trans e1) (g2.trans e2) (g3.trans e3) (by rw [ik,ik]; exact Nat.le_refl _) (fun b hb hb2=>by
       rw [fM _ _ _ _ _ (hb2 hn),fM _ _ _ _ _ (hb2 hn)]; rfl) rfl (.inr ⟨hn,rfl⟩) rfl rfl hroom c2 b1 (by rw [b2,a2]; exact c4) (fun j hj=>?_)
      rw [b3 _ (by rw [a2]; show (E 100000).off+j < arr.size; omega),a3 _ (by show (E 100000).off+j < arr.size; omega),ll _ _ _ hil]
      show (if (E 100000).off+i≤(E 100000).off+j∧_ then _ else if _≤(E 100000).off+j∧_ then _ else _)=_
      by_cases hj1:j < i
      · rw [if_neg (by omega),if_neg (by omega),if_pos hj1,List.getElem?_eq_getElem (by omega)]
        exact c5 j _ (List.getElem?_eq_getElem (by omega))
      · rw [if_neg hj1]
        by_cases hj2:j=i
        · subst hj2
          rw [if_pos ⟨Nat.le_refl _,by simp⟩,if_pos rfl]
          simp
        · rw [if_neg (by simp; omega),if_pos ⟨by omega,by simp; omega⟩,if_neg hj2,List.getElem?_drop,List.getElem?_map]
          congr 2
          show i+((E 100000).off+j - ((E 100000).off+(i+1)))=_
          omega
    · refine (Any2.slices_Insert_int_grow Tryz.laysNm221 (E 100000).blk (E 100000).off xs.length (E 100000).cap i (E 100001).blk (E 100001).off 1 (E 100001).cap (xs.map (Value.int .i64)) [Value.int .i64 x] w hil2 (by decide) c1 (by omega) (by omega) (by simp) rfl hcs hv0 h1c h1v).mono ?_
      rintro e w' ⟨rfl,rfl⟩
      have hge:=grownCap_ge w (xs.length+1) (E 100000).cap 3
      have hle:grownCap w (xs.length+1) (E 100000).cap 3≤maxLen:=grownCap_le_maxLen w _ _ 3 (by rw [hmx]; omega)
      have e0:Tryz.laysNm221_ren.t 3=3:=rfl
      simp only [e0]
      generalize grownCap w (xs.length+1) (E 100000).cap 3=G at *
      have hnew:=Go.heap_alloc_new w (.cells (((xs.map (Value.int .i64)).take i).toArray++Builtin.zeroCells (Value.int .i64 0).cells (xs.length+1 - i)++Builtin.zeroCells (Value.int .i64 0).cells (G - (xs.length+1))) 3 (0,0))
      generalize hA:(((xs.map (Value.int .i64)).take i).toArray++Builtin.zeroCells (Value.int .i64 0).cells (xs.length+1 - i)++Builtin.zeroCells (Value.int .i64 0).cells (G - (xs.length+1)))=A at hnew
      have hAs:A.size=G:=by
       rw [← hA]; simp [size_zeroCells,Value.cells]; omega
      have hAg:∀ j,j < i→A[j]? = (xs[j]?).map (Value.int .i64):=fun j hj=>by
       rw [← hA,Array.getElem?_append_left (by simp; omega),Array.getElem?_append_left (by simp; omega)]
       simp [List.getElem?_take,hj]
      obtain ⟨arr',a1,a2,a3⟩:=fb w.heap.size [Value.int .i64 x] i (w.alloc (.cells A 3 (0,0))).drew A 3 (0,0) hnew
      obtain ⟨arr2,b1,b2,b3⟩:=fb w.heap.size ((xs.map (Value.int .i64)).drop i) (i+1) ((w.alloc (.cells A 3 (0,0))).drew.setCells w.heap.size i [Value.int .i64 x]).drew arr' 3 (0,0) a1
      obtain ⟨e1,e2,e3⟩:=gL w.heap.size [Value.int .i64 x] i (w.alloc (.cells A 3 (0,0))).drew
      obtain ⟨g1,g2,g3⟩:=gL w.heap.size ((xs.map (Value.int .i64)).drop i) (i+1) ((w.alloc (.cells A 3 (0,0))).drew.setCells w.heap.size i [Value.int .i64 x]).drew
      have hsz:(((w.alloc (.cells A 3 (0,0))).drew.setCells w.heap.size i [Value.int .i64 x]).drew.setCells w.heap.size (i+1) ((xs.map (Value.int .i64)).drop i)).heap.size=w.heap.size+1:=by
       rw [ik]
       show ((w.alloc (.cells A 3 (0,0))).drew.setCells w.heap.size i [Value.int .i64 x]).heap.size=_
       rw [ik]
       show (w.alloc (.cells A 3 (0,0))).heap.size=_
       simp
      refine fin ⟨w.heap.size,0,G,xs.length+1,1,false⟩ _ arr2 (g1.trans e1) (g2.trans e2) (g3.trans e3) (by rw [hsz]; omega) (fun b hb _=>?_) rfl (.inl ⟨Nat.le_refl _,by rw [hsz]; show w.heap.size < _; omega⟩) rfl rfl hge hle b1 (by rw [b2,a2,hAs]; show 0+G≤G; omega) (fun j hj=>?_)
      · rw [fM _ _ _ _ _ (by omega)]
        show ((w.alloc (.cells A 3 (0,0))).drew.setCells w.heap.size i [Value.int .i64 x]).heap[b]? = _
        rw [fM _ _ _ _ _ (by omega)]
        exact RowKit.Below.heap_alloc w _ b hb
      · show arr2[0+j]? = _
        rw [Nat.zero_add,b3 _ (by rw [a2,hAs]; omega),a3 _ (by rw [hAs]; omega),ll _ _ _ hil]
        by_cases hj1:j < i
        · rw [if_neg (by omega),if_neg (by omega),if_pos hj1]
          exact hAg j hj1
        · rw [if_neg hj1]
          by_cases hj2:j=i
          · subst hj2
            rw [if_neg (by omega),if_pos ⟨Nat.le_refl _,by simp⟩,if_pos rfl]
            simp
          · rw [if_pos ⟨by omega,by simp; omega⟩,if_neg hj2,List.getElem?_drop,List.getElem?_map]
            congr 2
            omega
def vaF (l:List Int):C:=.fn (.func 200) [] [.ref [enc l]]
theorem vx (l:List Int):FC Tryz.prog 180 [enc l] [] (vaF l) []:=by
 refine dC [] D3.is180 (by simp) trivial trivial trivial trivial (fun cx _ hl _=>dB [] 800 ?_)
 delta D3.c180 oO oN oA oM oT oG oR oQ oS oK oF oL
 simp (maxSteps:=4000000) -implicitDefEqProofs only [D3.rv180,Ent.of0,Ent.of1,Ent.of2,Ent.of3,Ent.of4,V,W3,↓reduceIte,seval,reduceCtorEq]
 refine iv (nC 1 1 rfl rfl rfl (dB [] 800 ?_))
 delta D3.c180k1 oO oN oA oM oT oG oR oQ oS oK oF oL
 simp (maxSteps:=4000000) -implicitDefEqProofs only [D3.rv180,refS,vaF,Ent.of0,Ent.of1,Ent.of2,Ent.of3,Ent.of4,V,W3,↓reduceIte,seval,reduceCtorEq]
def um : Ent Tryz.prog:=.of1 180 (fun _=>True) vaF (fun l=>by simp [vaF,dE,dE.keysIns]) (fun l _=>vx l)
theorem iterV_c (l:List Int) (h:l.length≤1000000):ItC Tryz.prog 200 [] [.ref [enc l]] [] 100000 (jk l) l.length true:=by
 intro lb R Rf hy
 refine lW [] is200 (by simp) (by simp) (fun o ho k cs hm=>by simp at ho; rcases ho with rfl | rfl <;> simp at hm) (fun cx _ _ _=>dB [] 800 ?_)
 delta c200 oO oN oA oM oT oG oR oQ oS oK oF oL
 simp (maxSteps:=4000000) -implicitDefEqProofs only [mG,List.nil_append,List.append_nil,gu,Ent.of0,Ent.of1,Ent.of2,Ent.of3,Ent.of4,V,W3,↓reduceIte,seval,reduceCtorEq]
 refine sn (α:=Nat) (fun v=>[(7,.s (.int .i64 (v:Int)))]) (fun v=>[(100000,.res (R v))]) (fun v=>v≤l.length) (fun v=>l.length - v) 0 (Nat.zero_le _) ?_ (fun i hv=>?_)
 · simp (maxSteps:=4000000) -implicitDefEqProofs only [Ent.of0,Ent.of1,Ent.of2,Ent.of3,Ent.of4,V,W3,↓reduceIte,seval,reduceCtorEq]
   try simp
 · refine dB [] 800 ?_
   by_cases h1:i < l.length
   · have hi2:(i:Int) < (l.length:Int):=by omega
     have hi0:(0:Int)≤i:=by omega
     have hs5:InR .i64 ((i:Int)+1):=by simp only [InR]; omega
     delta qQ oO oN oA oM oT oG oR oQ oS oK oF oL
     simp (maxSteps:=4000000) -implicitDefEqProofs only [mG,gu,h1,hi2,hi0,hs5,InR,List.nil_append,List.append_nil,WU,Ent.of0,Ent.of1,Ent.of2,Ent.of3,Ent.of4,V,W3,↓reduceIte,seval,reduceCtorEq]
     have hyc:YAt Tryz.prog lb [.s (.int .i64 (l.getD i 0))] (R i) (some (R (i+1))) Rf:=by
      have:=hy i h1
      simp only [jk,or_true,if_true] at this
      exact this
     generalize l.getD i 0=g at *
     repeat' first | (refine And.intro (by omega) ?_) | split
     refine tH rfl (OpM.yield (l:=lb) (kr:=100000) (xs:=[.s (.int .i64 g)]) (R:=R i) (Rt:=some (R (i+1))) (Rf:=Rf) rfl rfl rfl hyc) (fun ef hef=>ny [] 800 ?_)
     simp only [cd,cp,List.mem_cons,List.not_mem_nil,or_false] at hef
     rcases hef with rfl | rfl
     · simp (maxSteps:=4000000) -implicitDefEqProofs only [mG,WU,Ent.of0,Ent.of1,Ent.of2,Ent.of3,Ent.of4,V,W3,↓reduceIte,seval,reduceCtorEq]
       refine ⟨by omega,i+1,?_,?_,?_,rfl⟩
       · omega
       · omega
       · push_cast; rfl
     · simp (maxSteps:=4000000) -implicitDefEqProofs only [mG,WU,Ent.of0,Ent.of1,Ent.of2,Ent.of3,Ent.of4,V,W3,↓reduceIte,seval,reduceCtorEq]
       exact ⟨_,List.mem_cons_self,trivial,rfl,trivial⟩
   · have hi2:¬ (i:Int) < (l.length:Int):=by omega
     have hie:i=l.length:=by omega
     subst hie
     delta qQ oO oN oA oM oT oG oR oQ oS oK oF oL
     simp (maxSteps:=4000000) -implicitDefEqProofs only [mG,hi2,WU,Ent.of0,Ent.of1,Ent.of2,Ent.of3,Ent.of4,V,W3,↓reduceIte,seval,reduceCtorEq]
     exact ⟨_,List.mem_cons_of_mem _ List.mem_cons_self,trivial,rfl,trivial⟩
theorem qC (l:List Int) (h:l.length≤1000000):FC Tryz.prog 137 [.s (.slice none 0 0),vaF l] [] (.own 4) [(4,.row 1 3 (l.map Dat.cells))]:=by
 have hit:=iterV_c l h
 refine dC [4] D3.is137 (by simp) trivial trivial (by simp [an,ag,av]) (by simp [aB]) (fun cx hcx hl _=>dB [] 800 ?_)
 delta D3.c137 oO oN oA oM oT oG oR oQ oS oK oF oL
 simp (maxSteps:=4000000) -implicitDefEqProofs only [D3.rv137,vaF,Ent.of0,Ent.of1,Ent.of2,Ent.of3,Ent.of4,V,W3,↓reduceIte,seval,reduceCtorEq]
 refine S_sh 200000 (by rw [hcx.2.2]; exact Nat.le_refl _) (by rfl) ?_
 simp (maxSteps:=4000000) -implicitDefEqProofs only [Ent.of0,Ent.of1,Ent.of2,Ent.of3,Ent.of4,V,W3,↓reduceIte,seval,reduceCtorEq]
 refine mK (f:=200) (first:=[]) (caps:=[.ref [enc l]]) (ich:=[]) (kr:=100000) (vals:=jk l) (N:=l.length) (fin:=true) [200002]
  (fun i=>[(200002,.box [if i=0 then .s (.slice none 0 0) else .isl 1 3 ((l.take i).map Dat.cells)])])
  hcx.2.1 rfl hit ⟨⟨rfl,trivial⟩,trivial⟩ ⟨fun c hc=>?_,fun k c hc=>by simp at hc⟩ ?_ (fun i hi=>?_) (fun k hk=>?_) (fun i hi=>?_) (fun i hi cx' _ hcx'=>dB [] 800 ?_) (fun _=>?_)
 · simp at hc
   rcases hc with rfl; trivial
 · simp (maxSteps:=4000000) -implicitDefEqProofs only [Ent.of0,Ent.of1,Ent.of2,Ent.of3,Ent.of4,V,W3,↓reduceIte,seval,reduceCtorEq]
 · simp (maxSteps:=4000000) -implicitDefEqProofs only [Ent.of0,Ent.of1,Ent.of2,Ent.of3,Ent.of4,V,W3,↓reduceIte,seval,reduceCtorEq]
   all_goals simp
 · rw [hcx.2.2]
   simp only [List.mem_cons,List.not_mem_nil,or_false] at hk
   omega
 · refine ⟨rfl,fun c hc=>?_⟩
   simp only [jk,List.mem_singleton] at hc; subst hc; trivial
 · simp (maxSteps:=4000000) -implicitDefEqProofs only [jk,Ent.of0,Ent.of1,Ent.of2,Ent.of3,Ent.of4,V,W3,↓reduceIte,seval,reduceCtorEq]
   intro cx'' _ _
   refine dB [] 800 ?_
   have hlen:(l.take i).length=i:=by simp; omega
   have hsn:=p8 hi
   cases i with
   | zero=>
    have h1:[[C.s (.int .i64 (l.getD 0 0))]]=(l.take 1).map Dat.cells:=by simpa using hsn
    delta D3.c137r1 oO oN oA oM oT oG oR oQ oS oK oF oL
    simp (maxSteps:=4000000) -implicitDefEqProofs only [InR,Ent.of0,Ent.of1,Ent.of2,Ent.of3,Ent.of4,V,W3,↓reduceIte,seval,reduceCtorEq]
    rw [h1]
    exact ⟨by decide,.inr trivial,rfl⟩
   | succ i=>
    delta D3.c137r1 oO oN oA oM oT oG oR oQ oS oK oF oL
    simp (maxSteps:=4000000) -implicitDefEqProofs only [hlen,Nat.succ_ne_zero,InR,hsn,Ent.of0,Ent.of1,Ent.of2,Ent.of3,Ent.of4,V,W3,↓reduceIte,seval,reduceCtorEq]
    exact ⟨⟨by decide,by omega,by omega⟩,by decide,.inr trivial⟩
 · by_cases hv0:l.length=0
   · have:l=[]:=List.length_eq_zero_iff.1 hv0
     subst this
     refine dB [] 800 ?_
     simp (maxSteps:=4000000) -implicitDefEqProofs only [D3.rv137,Ent.of0,Ent.of1,Ent.of2,Ent.of3,Ent.of4,V,W3,↓reduceIte,seval,reduceCtorEq]
     refine m8 (i:=4) (sz:=1) (ty:=3) (by decide) rfl (iv (dB [] 100 ?_))
     delta D3.c137k2 oO oN oA oM oT oG oR oQ oS oK oF oL
     simp (maxSteps:=4000000) -implicitDefEqProofs only [D3.rv137,Ent.of0,Ent.of1,Ent.of2,Ent.of3,Ent.of4,V,W3,↓reduceIte,seval,reduceCtorEq]
   · simp only [if_neg hv0,List.take_length]
     refine dB [] 800 ?_
     simp (maxSteps:=4000000) -implicitDefEqProofs only [D3.rv137,Ent.of0,Ent.of1,Ent.of2,Ent.of3,Ent.of4,V,W3,↓reduceIte,seval,reduceCtorEq]
     refine fD (dW.take (s:=4) (k:=200002) (j:=0) (by decide) rfl rfl trivial rfl (by decide)) (iv (dB [] 100 ?_))
     delta D3.c137k2 oO oN oA oM oT oG oR oQ oS oK oF oL
     simp (maxSteps:=4000000) -implicitDefEqProofs only [D3.rv137,Ent.of0,Ent.of1,Ent.of2,Ent.of3,Ent.of4,V,W3,↓reduceIte,seval,reduceCtorEq]
theorem uu (l:List Int):vaF l=.fn (.func 200) [] [.ref [.sl 1 (l.map Dat.cells)]]:=rfl
theorem wfr1 {k:Nat} {c:Ch} (hc:∀ cs,c≠.box cs):WfR [] (.own k) [(k,c)] [k]:=by
 refine ⟨fun k' c' h=>.inl ?_,fun k cs h=>(by cases h),by simp [dE],fun k' c' h=>?_⟩
 · simp only [List.mem_singleton,Prod.mk.injEq] at h; rw [h.1]; exact List.mem_singleton.2 rfl
 · simp only [List.mem_singleton,Prod.mk.injEq] at h
   rw [h.2]
   cases c with
   | box cs=>exact absurd rfl (hc cs)
   | _=>trivial
def su : Ent Tryz.prog:=.mk3 137 (fun args chs=>match args,chs with
 | [.s (.slice none 0 0),.fn (.func f) [] [.ref [.sl 1 a]]],[]=>(fg a:Option (List Int)).bind fun l=>some (f=200∧l.length≤1000000,.own 4,[(4,.row 1 3 (l.map Dat.cells))],[4])
 | _,_=>none) (by
 intro args chs p r chs' nk hs hp
 split at hs
 · simp only [Option.bind_eq_some_iff,Option.some.injEq,Prod.mk.injEq] at hs
   obtain ⟨l,h1,rfl,rfl,rfl,rfl⟩:=hs
   obtain ⟨rfl,h⟩:=hp
   have:=qC l h
   rw [uu,← gi h1] at this
   exact ⟨by rw [← gi h1]; exact this,wfr1 (fun cs h=>by cases h)⟩
 · cases hs)
theorem tG (l:List Int) (h:l.length≤1000000):FC Tryz.prog 93 [vaF l] [] (.own 4) [(4,.row 1 3 (l.map Dat.cells))]:=by
 refine dC [4] is93 (by simp) trivial trivial (by simp [an,ag,av]) (by simp [aB]) (fun cx _ hl _=>dB [su] 800 ?_)
 delta c93 oO oN oA oM oT oG oR oQ oS oK oF oL
 simp (maxSteps:=4000000) -implicitDefEqProofs only [rv93,uu,su,h,Ent.of0,Ent.of1,Ent.of2,Ent.of3,Ent.of4,V,W3,↓reduceIte,seval,reduceCtorEq]
theorem CEv.of_ev' {E E':Env} {U U':Nat→Prop} {w w':World} {ch ch':Chs} {m:List (Nat×Sb)} {d:Nat} (he:Ev E U w ch m d E' U' w' ch') (hk:∀ k cs,(k,Ch.box cs)∉ch'):CEv E U w ch E' U' w' ch':=
 ⟨he.os,he.tape,he.output,he.size,he.keep,he.rest,he.live,he.newU,fun k cs h _=>absurd h (hk k cs),he.inv⟩
theorem CEv.then1 {E E1 E2:Env} {U U1 U2:Nat→Prop} {w w1 w2:World} {k:Nat} {c1 c2:Ch} (h1:CEv E U w [] E1 U1 w1 [(k,c1)]) (h2:CEv E1 U1 w1 [(k,c1)] E2 U2 w2 [(k,c2)]) (hb:∀ cs,c2≠.box cs):CEv E U w [] E2 U2 w2 [(k,c2)]:=by
 have hfp:∀ b,(E1 k).fp b→w.heap.size≤b:=fun b hb=>by
  rcases h1.live k c1 List.mem_cons_self b hb with q | ⟨_,_,q,_⟩
  · exact q
  · cases q
 refine ⟨h2.os.trans h1.os,h2.tape.trans h1.tape,h2.output.trans h1.output,Nat.le_trans h1.size h2.size,fun b hu=>?_,fun b hb hno=>?_,fun k' c' hm b hb=>?_,fun b hu=>?_,fun k' cs hm h=>?_,h2.inv⟩
 · obtain ⟨a1,a2⟩:=h1.keep b hu
   obtain ⟨b1,b2⟩:=h2.keep b a1
   exact ⟨b1,b2.trans a2⟩
 · rw [h2.rest b (Nat.lt_of_lt_of_le hb h1.size) (fun k' c' hm hf=>?_),h1.rest b hb (fun k' c' hm=>by cases hm)]
   simp only [List.mem_singleton,Prod.mk.injEq] at hm
   obtain ⟨rfl,rfl⟩:=hm
   have:=hfp b hf; omega
 · rcases h2.live k' c' hm b hb with q | ⟨k0,c0,q,hf⟩
   · exact .inl (Nat.le_trans h1.size q)
   · simp only [List.mem_singleton,Prod.mk.injEq] at q
     obtain ⟨rfl,rfl⟩:=q
     exact .inl (hfp b hf)
 · rcases h2.newU b hu with q | q | ⟨k0,c0,q,hf⟩
   · rcases h1.newU b q with r | r | ⟨_,_,r,_⟩
     · exact .inl r
     · exact .inr (.inl r)
     · cases r
   · exact .inr (.inl (Nat.le_trans h1.size q))
   · simp only [List.mem_singleton,Prod.mk.injEq] at q
     obtain ⟨rfl,rfl⟩:=q
     exact .inr (.inl (hfp b hf))
 · obtain ⟨c,hc⟩:=h; cases hc
theorem vu {E:Env} {U:Nat→Prop} {w:World} {k:Nat} {xs:List Int} (hi:Inv E U w.heap [(k,.row 1 3 (xs.map Dat.cells))]) (h:xs.length≤1000000) :
 Calls Tryz.prog 199 #[slV (E k).toKE0] w fun e w'=>e=.returned (.tuple #[])∧∃ E',(E' k).toKE0=(E k).toKE0∧CEv E U w [(k,.row 1 3 (xs.map Dat.cells))] E' U w' [(k,.row 1 3 ((fP xs).map Dat.cells))]:=by
 obtain ⟨hrow,hfp⟩:=hi.ok k _ List.mem_cons_self
 have hl:=hrow.1
 simp only [List.length_map] at hl
 cases hn:(E k).nil with
 | true=>
  have hx:xs=[]:=by
   rcases hrow.2.2.2 with ⟨_,g⟩ | ⟨g,_⟩
   · simpa using g
   · rw [hn] at g; cases g
  subst hx
  simp only [slV,hn,if_true]
  refine (Any.slices_Sort_int_none Tryz.lays189 none 0 w).mono ?_
  rintro e w' ⟨rfl,rfl⟩
  refine ⟨rfl,E,rfl,?_⟩
  have:fP []=[]:=by simp [fP]
  rw [this]
  exact CEv.of_ev' (Ev.refl hi 0) (fun k cs h=>by simp at h)
 | false=>
  obtain ⟨c1,_,arr,ha,hsz,_⟩:=iE hrow hn
  simp only [slV,hn,Bool.false_eq_true,if_false,hl]
  refine (Any.slices_Sort_int Tryz.lays189 (E k).blk (E k).off (E k).cap xs w (pX hrow hn) (lt_of_getElem? ha) (by omega)).mono ?_
  rintro e w' ⟨rfl,n,os,rfl⟩
  have hlen:(fP xs).length=xs.length:=by simp [fP]
  have hblk:(E k).blk < w.heap.size:=lt_of_getElem? ha
  have hownk:(E k).fp (E k).blk:=(hfp.fp _).2 (.inl ⟨hn,rfl⟩)
  have hheap:∀ b,b < w.heap.size→(Sort.grow (Sort.putRow (Value.int .i64) (Sort.ahead w n) (E k).blk (E k).off (fP xs).toArray) os).heap[b]? = (Sort.putRow (Value.int .i64) w (E k).blk (E k).off (fP xs).toArray).heap[b]?:=fun b hb=>by
   show ((Sort.putRow (Value.int .i64) (Sort.ahead w n) (E k).blk (E k).off (fP xs).toArray).heap++os)[b]? = _
   rw [Array.getElem?_append_left (by simpa [Sort.ahead] using hb),fX,fX]; rfl
  have he:=Ev.rekey (w1:=Sort.grow (Sort.putRow (Value.int .i64) (Sort.ahead w n) (E k).blk (E k).off (fP xs).toArray) os) (c1:=.row 1 3 ((fP xs).map Dat.cells)) (x:={ E k with len:=(fP xs).length }) (c0:=.row 1 3 (xs.map Dat.cells)) hi (by simp [lk]) rfl rfl rfl (by simp [Sort.grow,Sort.ahead]) (fun b hb hnb=>by
   have hne:¬ (E k).blk=b:=fun e=>hnb (e ▸ hownk)
   rw [hheap b hb,fX,if_neg hne]) (fun b hb=>.inr hb) (fun cs h=>by cases h) (fun hkeep=>by
   simp only [dM,updE_same]
   refine ⟨?_,⟨hfp.fp,hfp.ne,hfp.sep⟩⟩
   exact sJ hrow hn ha (by rw [hheap _ hblk,fX,if_pos rfl,ha]; rfl) (fP xs) (by simp) (by simp [hlen]) (fun j x hj=>by simpa using hj)) 0
  refine ⟨rfl,_,?_,CEv.of_ev' (by
   have e1:am (ae [(k,.c .any)] [(k,Ch.row 1 3 (xs.map Dat.cells))]) k (.row 1 3 ((fP xs).map Dat.cells))=[(k,.row 1 3 ((fP xs).map Dat.cells))]:=by simp [ae,am]
   rw [e1] at he
   exact he) (fun k cs h=>by simp at h)⟩
  rw [updE_same]
  show { (E k).toKE0 with len:=(fP xs).length }=_
  rw [hlen,← hl]
theorem vw (l:List Int) (h:l.length≤1000000):FC Tryz.prog 179 [vaF l] [] (.own 4) [(4,.row 1 3 ((fP l).map Dat.cells))]:=by
 refine ⟨⟨_,Tryz.func179,by kernel_rfl,by kernel_rfl⟩,fun E U aS w hgl ha hi=>?_⟩
 have hC:=(tG l h).2 E U aS w hgl ha hi
 obtain ⟨hs,hr⟩:=ha
 have e93:∀ args w,(callFunc 93 args).run Tryz.prog w=.ok (.enter 93 args) w:=enters_of Tryz.func93 (by kernel_rfl) rfl
 have e199:∀ args w,(callFunc 199 args).run Tryz.prog w=.ok (.enter 199 args) w:=enters_of Tryz.func199 (by kernel_rfl) rfl
 generalize hv0:aS.getD 0 undef=v0
 have hA:=args1 hs hv0
 subst hA
 go_enter Tryz.func179,Tryz.ntmps179
 go_wp2_with (go_at_fn 93; refine hC.mono ?_; rintro e w1 ⟨v,E1,U1,rfl,hr1,hc1⟩)
 have hv:=eU hr1
 subst hv
 go_wp2_with (go_at_fn 199; refine (vu hc1.inv h).mono ?_; rintro e w2 ⟨rfl,E2,hE2,hc2⟩)
 go_ret
 refine ⟨_,E2,U1,rfl,?_,CEv.then1 hc1 hc2 (fun cs h=>by cases h)⟩
 have:=Rep.own (E:=E2) (U:=U1) (h:=w2.heap) 4
 rw [hE2] at this
 exact this
theorem td (n:Nat) (h0:0 < n) (hn:n≤1000000) (w:World):Calls Tryz.prog 201 #[.slice none 0 0,.int .i64 n] w fun e w'=>∃ G,e=.returned (.slice (some ⟨w.heap.size,0,none⟩) 0 G)∧G≤maxLen∧∃ vs,w'=w.drew.alloc (.cells vs 3)∧G≤vs.size:=by
 have h1:¬ ((n:Int) < 0):=by omega
 have h4:(n:Int) > 0:=by omega
 have hmap:(Tryz.prog.info? 3).map (fun i=>(i.zero,i.size,i.bytes))=some (some (.int .i64 0),1,8):=by kernel_rfl
 obtain ⟨i0,hi0,hq⟩:=Option.map_eq_some_iff.1 hmap
 simp only [Prod.mk.injEq] at hq
 obtain ⟨hz0,hs0,hb0⟩:=hq
 have hrz:∀ ty,(Builtin.append_ #[24,3] ty #[.slice none 0 0,.int .i64 (n:Int)]).run Tryz.prog w =
  .ok (.slice (some ⟨w.heap.size,0,none⟩) n (grownCap w n 0 3)) (w.drew.alloc (.cells (#[]++Builtin.zeroCells (Value.int .i64 0).cells n++Builtin.zeroCells (Value.int .i64 0).cells (grownCap w n 0 3 - n)) 3)):=fun ty=>by
  have h:=Lib.run_append_grow_zeros w 24 3 ty 3 i0 (.int .i64 0) .i64 .i64 Tryz.underlying24 Tryz.underlying3 hi0 hz0 none 0 0 [] (run_firstCells_none w.drew i0.size 0 0 0) n h0 (by omega) (by omega) (by omega) (by rw [hb0]; omega) (growslice_fits (by omega) (by rw [hb0]; omega))
  simpa using h
 have hge:n≤grownCap w n 0 3:=grownCap_ge w _ _ _
 have hle:grownCap w n 0 3≤maxLen:=grownCap_le_maxLen w n 0 3 (by unfold maxLen; omega)
 generalize grownCap w n 0 3=G at *
 have hG63:G≤9223372036854775807:=by unfold maxLen at hle; omega
 go_enter Tryz.func201,Tryz.ntmps201
 go_wp2_with (at_builtin; refine Lib.wpList_append_run _ rfl _ _ _ _ rfl _ _ rfl rfl _ _ (hrz _) ?_)
 all_goals (go_ret; refine ⟨G,rfl,hle,_,rfl,?_⟩)
 simp [size_zeroCells,Value.cells]
 omega
theorem Grow_c (n:Int) (h0:0 < n) (hn:n≤1000000):FC Tryz.prog 201 [.s (.slice none 0 0),enc n] [] (.own 5) [(5,.row 1 3 [])]:=by
 obtain ⟨N,rfl⟩:∃ N:Nat,n=(N:Int):=⟨n.toNat,by omega⟩
 refine ⟨⟨_,Tryz.func201,by kernel_rfl,by kernel_rfl⟩,fun E U aS w hg ha hi=>?_⟩
 obtain ⟨hs,hr⟩:=ha
 have hA:=dJ (hr 0 _ rfl)
 have hB:=dJ (hr 1 _ rfl)
 have hv:aS=#[.slice none 0 0,.int .i64 N]:=by
  refine Array.ext (by simpa using hs) (fun i h1 h2=>?_)
  simp at h2
  rw [Array.getD_eq_getD_getElem?] at hA hB
  match i,h1,h2 with
  | 0,h1,_=>rw [Array.getElem?_eq_getElem h1] at hA; exact hA
  | 1,h1,_=>rw [Array.getElem?_eq_getElem h1] at hB; exact hB
 rw [hv]
 refine (td N (by omega) (by omega) w).mono ?_
 rintro e w' ⟨G,rfl,hG,vs,rfl,hsz⟩
 refine ⟨_,fun k=>if k=5 then ⟨⟨w.heap.size,0,G,0,1,false⟩,fun _=>default,fun b=>b=w.heap.size⟩ else E k,U,rfl,?_,?_⟩
 · exact Rep.own 5
 · have hold:∀ b,b < w.heap.size→(w.drew.alloc (.cells vs 3)).heap[b]? = w.heap[b]?:=fun b hb=>RowKit.Below.heap_alloc w.drew _ b hb
   refine ⟨rfl,rfl,rfl,by simp,fun b h=>⟨h,hold b (hi.lt b h)⟩,fun b h _=>hold b h,fun k c h b hb=>?_,fun b h=>.inl h,fun k cs h=>(by simp at h),⟨by simp,fun k c h=>?_,fun k c k' c' h h' hne=>?_,fun k c h b hb=>?_,fun k c h b hb=>?_,fun b h=>?_⟩⟩
   · simp only [List.mem_singleton,Prod.mk.injEq] at h
     obtain ⟨rfl,rfl⟩:=h
     have:b=w.heap.size:=hb
     exact .inl (by omega)
   · simp only [List.mem_singleton,Prod.mk.injEq] at h
     obtain ⟨rfl,rfl⟩:=h
     refine ⟨⟨rfl,rfl,fun i e he=>by simp at he,.inr ⟨rfl,Nat.zero_le _,hG,vs,heap_alloc_new w.drew _,?_,fun i e j c he=>by simp at he⟩⟩,⟨fun b=>?_,fun i q h=>(by cases h),fun i j q q' _ h=>(by cases h)⟩⟩
     · simpa using hsz
     · constructor
       · intro h; exact .inl ⟨rfl,Eq.symm h⟩
       · rintro (⟨_,h⟩ | ⟨i,q,h,_⟩)
         · exact h.symm
         · cases h
   · simp only [List.mem_singleton,Prod.mk.injEq] at h h'
     exact absurd (h.1.trans h'.1.symm) hne
   · simp only [List.mem_singleton,Prod.mk.injEq] at h
     obtain ⟨rfl,rfl⟩:=h
     intro hu
     have e:b=w.heap.size:=hb
     have:=hi.lt b hu
     omega
   · simp only [List.mem_singleton,Prod.mk.injEq] at h
     obtain ⟨rfl,rfl⟩:=h
     have e:b=w.heap.size:=hb
     simp [e]
   · have:=hi.lt b h
     simp; omega
def uq : Ent Tryz.prog:=.mk3 201 (fun args chs=>match args,chs with
 | [.s (.slice none 0 0),.s (.int .i64 n)],[]=>some (0 < n∧n≤1000000,.own 5,[(5,.row 1 3 [])],[5])
 | _,_=>none) (by
 intro args chs p r chs' nk hs hp
 split at hs
 · simp only [Option.some.injEq,Prod.mk.injEq] at hs
   obtain ⟨rfl,rfl,rfl,rfl⟩:=hs
   refine ⟨Grow_c _ hp.1 hp.2,⟨fun k c h=>.inl ?_,fun k cs h=>by simp at h,List.mem_singleton.2 rfl,fun k c h=>?_⟩⟩
   · simp only [List.mem_singleton,Prod.mk.injEq] at h; rw [h.1]; exact List.mem_singleton.2 rfl
   · simp only [List.mem_singleton,Prod.mk.injEq] at h; rw [h.2]; trivial
 · cases hs)
theorem r8 (w:World):Calls Tryz.prog 201 #[.slice none 0 0,.int .i64 0] w fun e w'=>e=.returned (.slice none 0 0)∧w'=w:=by
 go_enter Tryz.func201,Tryz.ntmps201
 go_wp2
 go_ret
 exact ⟨rfl,rfl⟩
theorem Grow0_c : FC Tryz.prog 201 [.s (.slice none 0 0),.s (.int .i64 0)] [] (.s (.slice none 0 0)) []:=by
 refine FC.scal (vs:=[.slice none 0 0,.int .i64 0]) ⟨_,Tryz.func201,by kernel_rfl,by kernel_rfl⟩ (fun U w hg hU=>?_)
 refine (r8 w).mono ?_
 rintro e w' ⟨rfl,rfl⟩
 exact ⟨_,rfl,fun E U h=>.d (.s _),.refl _ _⟩
def sv : Ent Tryz.prog:=.mk3 201 (fun args chs=>match args,chs with
 | [.s (.slice none 0 0),.s (.int .i64 n)],[]=>some (n=0,.s (.slice none 0 0),[],[])
 | _,_=>none) (by
 intro args chs p r chs' nk hs hp
 split at hs
 · simp only [Option.some.injEq,Prod.mk.injEq] at hs
   obtain ⟨rfl,rfl,rfl,rfl⟩:=hs
   subst hp
   exact ⟨Grow0_c,.plain trivial⟩
 · cases hs)
theorem mh {l:List (List Int)} {i:Nat} (h:i < l.length):(l.take (i+1)).flatten=(l.take i).flatten++l.getD i []:=by
 rw [p7 [] h,List.flatten_append]; simp
theorem pg (xs:List (List Int)) (i:Nat) (h:i < xs.length):List.getD (xs.map Dat.cells) i [C.sl 0 []]=[C.sl 1 ((xs.getD i []).map Dat.cells)]:=by
 rw [List.getD_eq_getElem?_getD,List.getD_eq_getElem?_getD,List.getElem?_map,List.getElem?_eq_getElem h]; rfl
theorem vj (x:List (List Int)) (h1:x.length≤1000) (h2:x.flatten.length≤1000000):FC Tryz.prog 181 [enc x] [] (enc x.flatten) []:=by
 have hT:∀ i,i≤x.length→((x.take i).flatten.length:Int)≤x.flatten.length:=fun i _=>by
  have e:x.flatten=(x.take i).flatten++(x.drop i).flatten:=by rw [← List.flatten_append,List.take_append_drop]
  rw [e,List.length_append]; push_cast; omega
 refine dC [] is181 (by simp) trivial trivial trivial trivial (fun cx _ hl _=>dB [] 800 ?_)
 delta c181 oO oN oA oM oT oG oR oQ oS oK oF oL
 simp (maxSteps:=4000000) -implicitDefEqProofs only [jJ,WU,Ent.of0,Ent.of1,Ent.of2,Ent.of3,Ent.of4,V,W3,↓reduceIte,seval,reduceCtorEq]
 refine eM x.length (fun i=>[(3,.s (.int .i64 ((x.take i).flatten.length:Int))),(11,.s (.int .i64 (i:Int)))]) (fun _=>[]) (fun _=>True) trivial ?_ (fun i hi _=>?_)
 · simp (maxSteps:=4000000) -implicitDefEqProofs only [Ent.of0,Ent.of1,Ent.of2,Ent.of3,Ent.of4,V,W3,↓reduceIte,seval,reduceCtorEq]
   all_goals simp
 · by_cases h:i < x.length
   · have hi2:(i:Int) < (x.length:Int):=by omega
     have hi0:(0:Int)≤i:=by omega
     have hg:=pg x i h
     have hfl:=mh h
     have hb1:=hT (i+1) h
     rw [hfl,List.length_append] at hb1
     have hn0:¬ ((x.take i).flatten.length:Int)+((x.getD i []).length:Int) < 0:=by omega
     generalize x.getD i []=g at *
     refine dB [] 800 ?_
     delta nM oO oN oA oM oT oG oR oQ oS oK oF oL
     simp (maxSteps:=4000000) -implicitDefEqProofs only [jJ,h,hi2,hi0,hg,hn0,hfl,List.length_append,InR,WU,Ent.of0,Ent.of1,Ent.of2,Ent.of3,Ent.of4,V,W3,↓reduceIte,seval,reduceCtorEq]
     push_cast at *
     omega
   · have hi2:¬ (i:Int) < (x.length:Int):=by omega
     have hie:i=x.length:=by omega
     subst hie
     rw [List.take_length]
     have step:∀ (kk:Nat) (st:ASt),kk=6∨kk=24→True:=fun _ _ _=>trivial
     by_cases hz:x.flatten.length=0
     · have hz0:((x.flatten.length:Nat):Int)=0:=by omega
       refine dB [sv] 800 ?_
       delta nM oO oN oA oM oT oG oR oQ oS oK oF oL
       simp (maxSteps:=4000000) -implicitDefEqProofs only [jJ,hi2,sv,hz0,WU,Ent.of0,Ent.of1,Ent.of2,Ent.of3,Ent.of4,V,W3,↓reduceIte,seval,reduceCtorEq]
       refine m8 (i:=6) (sz:=1) (ty:=3) (by decide) rfl ?_
       refine eM x.length (fun i=>[(27,.s (.int .i64 (i:Int)))]) (fun i=>[(6,.row 1 3 ((x.take i).flatten.map Dat.cells))]) (fun _=>True) trivial ?_ (fun i hi _=>dB [] 800 ?_)
       · simp (maxSteps:=4000000) -implicitDefEqProofs only [Ent.of0,Ent.of1,Ent.of2,Ent.of3,Ent.of4,V,W3,↓reduceIte,seval,reduceCtorEq]
         all_goals simp
       · by_cases h:i < x.length
         · have hi2:(i:Int) < (x.length:Int):=by omega
           have hi0:(0:Int)≤i:=by omega
           have hg:=pg x i h
           have hfl:=mh h
           have hb1:=hT (i+1) h
           rw [hfl,List.length_append] at hb1
           generalize x.getD i []=g at *
           delta lM oO oN oA oM oT oG oR oQ oS oK oF oL
           simp (maxSteps:=4000000) -implicitDefEqProofs only [jJ,h,hi2,hi0,hg,hfl,List.map_append,List.length_map,InR,WU,Ent.of0,Ent.of1,Ent.of2,Ent.of3,Ent.of4,V,W3,↓reduceIte,seval,reduceCtorEq]
           omega
         · have hi2:¬ (i:Int) < (x.length:Int):=by omega
           have hie:i=x.length:=by omega
           subst hie
           delta lM oO oN oA oM oT oG oR oQ oS oK oF oL
           simp (maxSteps:=4000000) -implicitDefEqProofs only [jJ,hi2,List.take_length,WU,Ent.of0,Ent.of1,Ent.of2,Ent.of3,Ent.of4,V,W3,↓reduceIte,seval,reduceCtorEq]
     · have hz0:(0:Int) < (x.flatten.length:Int):=by omega
       have hz1:(x.flatten.length:Int)≤1000000:=by omega
       refine dB [uq] 800 ?_
       delta nM oO oN oA oM oT oG oR oQ oS oK oF oL
       simp (maxSteps:=4000000) -implicitDefEqProofs only [jJ,hi2,uq,hz0,hz1,WU,Ent.of0,Ent.of1,Ent.of2,Ent.of3,Ent.of4,V,W3,↓reduceIte,seval,reduceCtorEq]
       refine eM x.length (fun i=>[(27,.s (.int .i64 (i:Int)))]) (fun i=>[(24,.row 1 3 ((x.take i).flatten.map Dat.cells))]) (fun _=>True) trivial ?_ (fun i hi _=>dB [] 800 ?_)
       · simp (maxSteps:=4000000) -implicitDefEqProofs only [Ent.of0,Ent.of1,Ent.of2,Ent.of3,Ent.of4,V,W3,↓reduceIte,seval,reduceCtorEq]
         all_goals simp
       · by_cases h:i < x.length
         · have hi2:(i:Int) < (x.length:Int):=by omega
           have hi0:(0:Int)≤i:=by omega
           have hg:=pg x i h
           have hfl:=mh h
           have hb1:=hT (i+1) h
           rw [hfl,List.length_append] at hb1
           generalize x.getD i []=g at *
           delta lM oO oN oA oM oT oG oR oQ oS oK oF oL
           simp (maxSteps:=4000000) -implicitDefEqProofs only [jJ,h,hi2,hi0,hg,hfl,List.map_append,List.length_map,InR,WU,Ent.of0,Ent.of1,Ent.of2,Ent.of3,Ent.of4,V,W3,↓reduceIte,seval,reduceCtorEq]
           omega
         · have hi2:¬ (i:Int) < (x.length:Int):=by omega
           have hie:i=x.length:=by omega
           subst hie
           delta lM oO oN oA oM oT oG oR oQ oS oK oF oL
           simp (maxSteps:=4000000) -implicitDefEqProofs only [jJ,hi2,List.take_length,WU,Ent.of0,Ent.of1,Ent.of2,Ent.of3,Ent.of4,V,W3,↓reduceIte,seval,reduceCtorEq]
def uo : Ent Tryz.prog:=.of1 181 (fun x=>x.length≤1000∧x.flatten.length≤1000000) (fun x:List (List Int)=>enc x.flatten) (fun _=>trivial) (fun x h=>vj x h.1 h.2)
end Go.Proofs.YtcbabnbiinkafaaGreatDoor
end
section
open Go Go.Am
open Go.Am.Dat (cells)
namespace Go.Proofs.YtcbabnbiinkafaaGreatDoor
set_option maxHeartbeats 4000000
set_option maxRecDepth 100000
def fO (b:List (List Int)):List (List (List C)):=b.map fun r=>r.map Dat.cells
def phC (n:Nw) (p:Ph) (kB:Nat):List C:=[.s (.int .i64 p.m.at_),.s (.int .i64 p.m.phase),.s (.int .i64 p.m.since),.s (.int .i64 p.m.serving),.s (.int .i64 p.m.target),.s (.int .i64 p.m.source),.s (.int .i64 p.m.path),.s (.int .i64 p.m.fresh),.s (.int .i64 p.m.got),.own kB,
 .sl 1 (n.cells.map Dat.cells),.sl 2 (n.nb.map Dat.cells),.s (.int .i64 n.limit),.isl 1 3 (p.recv.map Dat.cells),.isl 3 138 (p.stays.map Dat.cells),.s (.int .i64 p.out),.s (.int .i64 p.longest)]
def phX (n:Nw) (p:Ph):Chs:=[(100000,.box (phC n p 100001)),(100001,.deep 1 3 24 none (fO p.m.buf))]
theorem et (b:List (List Int)):(fO b).length=b.length:=by simp [fO]
theorem fH (b:List (List Int)) (i:Nat):(fO b).getD i []=(b.getD i []).map Dat.cells:=by
 rw [List.getD_eq_getElem?_getD,List.getD_eq_getElem?_getD,fO,List.getElem?_map]
 cases b[i]? <;> rfl
theorem jR (b:List (List Int)) (i:Nat) (l:List Int):(fO b).set i (l.map Dat.cells)=fO (b.set i l):=by
 simp [fO,List.map_set]
theorem dD (n:Nw) (p:Ph):an (ag (phX n p)):=by simp [phX,an,ag,av]
theorem dQ (n:Nw) (p:Ph):bj (phX n p):=by simp [phX,bj]
theorem dH (n:Nw) (p q:Ph):aB (phX n p) (phX n q):=by simp [phX,aB,lk]
def eo (f:FuncId) (n:Nw) (p q:Ph) (as0:List C) (r:C) (hr:dE [100000,100001] r) (h:FC Tryz.prog f as0 (phX n p) r (phX n q)):Ent Tryz.prog:=.mk3 f (fun args chs=>some (args=as0∧chs=phX n p,r,phX n q,[])) (by
 intro args chs pp r' chs' nk hs hp
 simp only [Option.some.injEq,Prod.mk.injEq] at hs
 obtain ⟨rfl,rfl,rfl,rfl⟩:=hs
 obtain ⟨rfl,rfl⟩:=hp
 refine ⟨h,⟨fun k c hm=>.inr ?_,fun k cs hm=>?_,hr,fun k c hm=>?_⟩⟩
 · simp only [phX,List.mem_cons,List.not_mem_nil,or_false,Prod.mk.injEq] at hm ⊢
   rcases hm with ⟨rfl,rfl⟩ | ⟨rfl,rfl⟩
   · exact ⟨_,.inl ⟨rfl,rfl⟩⟩
   · exact ⟨_,.inr ⟨rfl,rfl⟩⟩
 · simp only [phX,List.mem_cons,List.not_mem_nil,or_false,Prod.mk.injEq] at hm ⊢
   rcases hm with ⟨rfl,h2⟩ | ⟨rfl,h2⟩
   · exact ⟨_,.inl ⟨rfl,rfl⟩⟩
   · cases h2
 · simp only [phX,List.mem_cons,List.not_mem_nil,or_false,Prod.mk.injEq] at hm
   rcases hm with ⟨rfl,rfl⟩ | ⟨rfl,rfl⟩
   · simp [gk,phC,phX,dE,dE.keysIns]
   · trivial)
theorem away_c (n:Nw) (p:Ph):FC Tryz.prog 120 [.ptr 100000 0] (phX n p) (enc (ei p.m)) (phX n p):=by
 refine dC [100001] is120 (by simp) (dQ n p) (dD n p) (dD n p) (dH n p p) (fun cx _ hl _=>dB [] 800 ?_)
 cases h1:decide (p.m.phase=2) <;> cases h2:decide (p.m.phase=3)
 all_goals
  have h1':=h1
  have h2':=h2
  simp only [decide_eq_true_eq,decide_eq_false_iff_not] at h1' h2'
  delta c120 oO oN oA oM oT oG oR oQ oS oK oF oL
  simp (maxSteps:=4000000) -implicitDefEqProofs only [rv120,phX,phC,ei,h1,h2,h1',h2',Bool.or_true,Bool.or_false,Bool.true_or,Bool.false_or,WU,Ent.of0,Ent.of1,Ent.of2,Ent.of3,Ent.of4,V,W3,↓reduceIte,seval,reduceCtorEq]
def e9 (n:Nw) (p:Ph):Ent Tryz.prog:=eo 120 n p p [.ptr 100000 0] (enc (ei p.m)) trivial (away_c n p)
theorem due_c (n:Nw) (p:Ph) (h:InR .i64 (p.m.since+n.limit)):FC Tryz.prog 121 [.ptr 100000 0] (phX n p) (enc (p.m.since+n.limit)) (phX n p):=by
 refine dC [100001] is121 (by simp) (dQ n p) (dD n p) (dD n p) (dH n p p) (fun cx _ hl _=>dB [] 800 ?_)
 simp only [InR] at h
 delta c121 oO oN oA oM oT oG oR oQ oS oK oF oL
 simp (maxSteps:=4000000) -implicitDefEqProofs only [rv121,phX,phC,InR,h,WU,Ent.of0,Ent.of1,Ent.of2,Ent.of3,Ent.of4,V,W3,↓reduceIte,seval,reduceCtorEq]
def nV (n:Nw) (p:Ph) (h:InR .i64 (p.m.since+n.limit)):Ent Tryz.prog:=eo 121 n p p [.ptr 100000 0] (enc (p.m.since+n.limit)) trivial (due_c n p h)
theorem gone_c (n:Nw) (p:Ph) (t:Int):FC Tryz.prog 281 [.ptr 100000 0,enc t] (phX n p) (.tup []) (phX n (iR p t)):=by
 refine dC [100001] is281 (by simp) (dQ n p) (dD n p) (dD n _) (dH n p _) (fun cx _ hl _=>dB [] 800 ?_)
 by_cases h:p.out=-1
 · delta c281 oO oN oA oM oT oG oR oQ oS oK oF oL
   simp (maxSteps:=4000000) -implicitDefEqProofs only [rv281,phX,phC,iR,h,WU,Ent.of0,Ent.of1,Ent.of2,Ent.of3,Ent.of4,V,W3,↓reduceIte,seval,reduceCtorEq]
 · delta c281 oO oN oA oM oT oG oR oQ oS oK oF oL
   simp (maxSteps:=4000000) -implicitDefEqProofs only [rv281,phX,phC,iR,h,WU,Ent.of0,Ent.of1,Ent.of2,Ent.of3,Ent.of4,V,W3,↓reduceIte,seval,reduceCtorEq]
def lU (n:Nw) (p:Ph) (t:Int):Ent Tryz.prog:=eo 281 n p (iR p t) [.ptr 100000 0,enc t] (.tup []) trivial (gone_c n p t)
theorem back_c (n:Nw) (p:Ph) (t:Int) (h:p.out≠-1→InR .i64 (t - p.out)):FC Tryz.prog 139 [.ptr 100000 0,enc t] (phX n p) (.tup []) (phX n (kW p t)):=by
 refine dC [100001] is139 (by simp) (dQ n p) (dD n p) (dD n _) (dH n p _) (fun cx _ hl _=>dB [] 800 ?_)
 by_cases h0:p.out=-1
 · delta c139 oO oN oA oM oT oG oR oQ oS oK oF oL
   simp (maxSteps:=4000000) -implicitDefEqProofs only [rv139,phX,phC,kW,kV,h0,WU,Ent.of0,Ent.of1,Ent.of2,Ent.of3,Ent.of4,V,W3,↓reduceIte,seval,reduceCtorEq]
 · have h1:=h h0
   simp only [InR] at h1
   have hm:(if t - p.out > p.longest then t - p.out else p.longest)=max p.longest (t - p.out):=by omega
   delta c139 oO oN oA oM oT oG oR oQ oS oK oF oL
   simp (maxSteps:=4000000) -implicitDefEqProofs only [rv139,phX,phC,kW,kV,h0,h1,hm,InR,WU,Ent.of0,Ent.of1,Ent.of2,Ent.of3,Ent.of4,V,W3,↓reduceIte,seval,reduceCtorEq]
def kN (n:Nw) (p:Ph) (t:Int) (h:p.out≠-1→InR .i64 (t - p.out)):Ent Tryz.prog:=eo 139 n p (kW p t) [.ptr 100000 0,enc t] (.tup []) trivial (back_c n p t h)
theorem rj (xs:List T3) (i:Nat) (h:i < xs.length):List.getD (xs.map Dat.cells) i []=[C.s (.int .i64 (xs.getD i ⟨0,0,0⟩).x),.s (.int .i64 (xs.getD i ⟨0,0,0⟩).y),.s (.int .i64 (xs.getD i ⟨0,0,0⟩).z)]:=by
 rw [List.getD_eq_getElem?_getD,List.getD_eq_getElem?_getD,List.getElem?_map,List.getElem?_eq_getElem h]; rfl
theorem serve_c (n:Nw) (p:Ph) (c t:Int) (h:0 < p.stays.length∧p.stays.length≤1000000):FC Tryz.prog 184 [.ptr 100000 0,enc c,enc t] (phX n p) (.tup []) (phX n (kn p c t)):=by
 refine dC [100001] is184 (by simp) (dQ n p) (dD n p) (dD n _) (dH n p _) (fun cx _ hl _=>dB [] 800 ?_)
 by_cases h0:c=p.m.serving
 · have h0':p.m.serving=c:=h0.symm
   delta c184 oO oN oA oM oT oG oR oQ oS oK oF oL
   simp (maxSteps:=4000000) -implicitDefEqProofs only [rv184,phX,phC,kn,chg,h0,WU,Ent.of0,Ent.of1,Ent.of2,Ent.of3,Ent.of4,V,W3,↓reduceIte,seval,reduceCtorEq]
 · have h0':¬ p.m.serving=c:=fun e=>h0 e.symm
   have hl1:(0:Int)≤(p.stays.length:Int) - 1:=by omega
   have hl2:(p.stays.length:Int) - 1 < (p.stays.length:Int):=by omega
   have hl3:((p.stays.length:Int) - 1).toNat=p.stays.length - 1:=by omega
   have hl4:p.stays.length - 1 < p.stays.length:=by omega
   have hset:(p.stays.map Dat.cells).set (p.stays.length - 1) [C.s (.int .i64 (p.stays.getD (p.stays.length - 1) ⟨0,0,0⟩).x),.s (.int .i64 (p.stays.getD (p.stays.length - 1) ⟨0,0,0⟩).y),.s (.int .i64 t)]++[[C.s (.int .i64 c),.s (.int .i64 t),.s (.int .i64 0)]]=((jK p.stays t)++[(⟨c,t,0⟩:T3)]).map Dat.cells:=by
    simp only [jK,List.map_append,List.map_set] <;> rfl
   have hgd:=rj p.stays _ hl4
   delta c184 oO oN oA oM oT oG oR oQ oS oK oF oL
   simp (maxSteps:=4000000) -implicitDefEqProofs only [rv184,phX,phC,kn,chg,h0,h0',hl1,hl2,hl3,hl4,hgd,hset,g9,gV,fJ,InR,aI,List.take_succ_cons,List.take_zero,List.drop_succ_cons,List.drop_nil,List.cons_append,List.nil_append,List.append_nil,List.length_set,List.length_map,WU,Ent.of0,Ent.of1,Ent.of2,Ent.of3,Ent.of4,V,W3,↓reduceIte,seval,reduceCtorEq]
   omega
def n5 (n:Nw) (p:Ph) (c t:Int) (h:0 < p.stays.length∧p.stays.length≤1000000):Ent Tryz.prog:=eo 184 n p (kn p c t) [.ptr 100000 0,enc c,enc t] (.tup []) trivial (serve_c n p c t h)
theorem waits_c (n:Nw) (p:Ph) (h1:p.m.buf.length≤1000000) (h2:fi p.m.buf≤1000000000):FC Tryz.prog 165 [.ptr 100000 0] (phX n p) (enc (fi p.m.buf)) (phX n p):=by
 refine dC [100001] is165 (by simp) (dQ n p) (dD n p) (dD n p) (dH n p p) (fun cx _ hl _=>dB [] 800 ?_)
 generalize hT:fi p.m.buf=T at *
 delta c165 oO oN oA oM oT oG oR oQ oS oK oF oL
 simp (maxSteps:=4000000) -implicitDefEqProofs only [qy,phX,phC,et,WU,Ent.of0,Ent.of1,Ent.of2,Ent.of3,Ent.of4,V,W3,↓reduceIte,seval,reduceCtorEq]
 refine eM p.m.buf.length (fun i=>[(3,.s (.int .i64 (T - fi (p.m.buf.drop i)))),(12,.s (.int .i64 (i:Int)))]) (fun _=>[]) (fun i=>0≤T - fi (p.m.buf.drop i)) (by simp [hT]) ?_ (fun i hi hv=>dB [] 800 ?_)
 · simp (maxSteps:=4000000) -implicitDefEqProofs only [Ent.of0,Ent.of1,Ent.of2,Ent.of3,Ent.of4,V,W3,↓reduceIte,seval,reduceCtorEq]
   all_goals simp [hT]
 · by_cases h:i < p.m.buf.length
   · have hi2:(i:Int) < (p.m.buf.length:Int):=by omega
     have hi0:(0:Int)≤i:=by omega
     have hd:=ee (d:=[]) h
     have hnn:=sH (p.m.buf.drop (i+1))
     rw [hd,fi] at hv
     have hg:=fH p.m.buf i
     generalize p.m.buf.getD i []=q at *
     delta qP oO oN oA oM oT oG oR oQ oS oK oF oL
     simp (maxSteps:=4000000) -implicitDefEqProofs only [qy,hi0,hi2,h,hg,hd,fi,et,List.length_map,InR,WU,Ent.of0,Ent.of1,Ent.of2,Ent.of3,Ent.of4,V,W3,↓reduceIte,seval,reduceCtorEq]
     omega
   · have hi2:¬ (i:Int) < (p.m.buf.length:Int):=by omega
     have hd:p.m.buf.drop i=[]:=List.drop_eq_nil_of_le (by omega)
     delta qP oO oN oA oM oT oG oR oQ oS oK oF oL
     simp (maxSteps:=4000000) -implicitDefEqProofs only [qy,hi2,hd,fi,WU,Ent.of0,Ent.of1,Ent.of2,Ent.of3,Ent.of4,V,W3,↓reduceIte,seval,reduceCtorEq]
     try omega
def lT (n:Nw) (p:Ph) (h1:p.m.buf.length≤1000000) (h2:fi p.m.buf≤1000000000):Ent Tryz.prog:=eo 165 n p p [.ptr 100000 0] (enc (fi p.m.buf)) trivial (waits_c n p h1 h2)
theorem done_c (n:Nw) (p:Ph) (h:p.m.source≠-1→0≤p.m.source∧p.m.source.toNat < p.m.buf.length):FC Tryz.prog 149 [.ptr 100000 0] (phX n p) (enc (fT p.m)) (phX n p):=by
 refine dC [100001] is149 (by simp) (dQ n p) (dD n p) (dD n p) (dH n p p) (fun cx _ hl _=>dB [] 1200 ?_)
 cases h1:decide (p.m.source≠-1) <;> cases h2:decide (p.m.path=p.m.serving)
 all_goals
  have h1':=h1
  have h2':=h2
  simp only [decide_eq_true_eq,decide_eq_false_iff_not,ne_eq,Decidable.not_not] at h1' h2'
 · delta c149 oO oN oA oM oT oG oR oQ oS oK oF oL
   simp (maxSteps:=4000000) -implicitDefEqProofs only [oU,phX,phC,fT,h1,h2,h1',h2',Bool.and_true,Bool.and_false,Bool.true_and,Bool.false_and,WU,Ent.of0,Ent.of1,Ent.of2,Ent.of3,Ent.of4,V,W3,↓reduceIte,seval,reduceCtorEq]
 · delta c149 oO oN oA oM oT oG oR oQ oS oK oF oL
   simp (maxSteps:=4000000) -implicitDefEqProofs only [oU,phX,phC,fT,h1,h2,h1',h2',Bool.and_true,Bool.and_false,Bool.true_and,Bool.false_and,WU,Ent.of0,Ent.of1,Ent.of2,Ent.of3,Ent.of4,V,W3,↓reduceIte,seval,reduceCtorEq]
   all_goals simp
 · delta c149 oO oN oA oM oT oG oR oQ oS oK oF oL
   simp (maxSteps:=4000000) -implicitDefEqProofs only [oU,phX,phC,fT,h1,h2,h1',h2',Bool.and_true,Bool.and_false,Bool.true_and,Bool.false_and,WU,Ent.of0,Ent.of1,Ent.of2,Ent.of3,Ent.of4,V,W3,↓reduceIte,seval,reduceCtorEq]
 · obtain ⟨g1,g2⟩:=h h1'
   have g3:p.m.source < (p.m.buf.length:Int):=by omega
   delta c149 oO oN oA oM oT oG oR oQ oS oK oF oL
   simp (maxSteps:=4000000) -implicitDefEqProofs only [oU,phX,phC,fT,h1,h2,h1',h2',g1,g2,g3,et,fH,dP,Bool.and_true,Bool.and_false,Bool.true_and,Bool.false_and,InR,WU,Ent.of0,Ent.of1,Ent.of2,Ent.of3,Ent.of4,V,W3,↓reduceIte,seval,reduceCtorEq]
   generalize p.m.buf.getD p.m.source.toNat []=q
   cases q with
   | nil=>rfl
   | cons a l=>simp; omega
def uj (n:Nw) (p:Ph) (h:p.m.source≠-1→0≤p.m.source∧p.m.source.toNat < p.m.buf.length):Ent Tryz.prog:=eo 149 n p p [.ptr 100000 0] (enc (fT p.m)) trivial (done_c n p h)
theorem vd (n:Nw) (p:Ph) (h:p.m.source≠-1→0≤p.m.source∧p.m.source.toNat < p.m.buf.length):FC Tryz.prog 262 [.ptr 100000 0] (phX n p) (.tup []) (phX n { p with m:=settle p.m }):=by
 refine dC [100001] is262 (by simp) (dQ n p) (dD n p) (dD n _) (dH n p _) (fun cx _ hl _=>dB [uj n p h] 1200 ?_)
 cases h1:fT p.m
 all_goals
  delta c262 oO oN oA oM oT oG oR oQ oS oK oF oL
  simp (maxSteps:=4000000) -implicitDefEqProofs only [rv262,phX,phC,uj,eo,settle,h1,WU,Ent.of0,Ent.of1,Ent.of2,Ent.of3,Ent.of4,V,W3,↓reduceIte,seval,reduceCtorEq]
def ur (n:Nw) (p:Ph) (h:p.m.source≠-1→0≤p.m.source∧p.m.source.toNat < p.m.buf.length):Ent Tryz.prog:=eo 262 n p { p with m:=settle p.m } [.ptr 100000 0] (.tup []) trivial (vd n p h)
theorem near_c (n:Nw) (p:Ph) (c:Int):FC Tryz.prog 148 [.ptr 100000 0,enc c] (phX n p) (enc (nbr n c p.m.serving)) (phX n p):=by
 refine dC [100001] is148 (by simp) (dQ n p) (dD n p) (dD n p) (dH n p p) (fun cx _ hl _=>dB [lR] 1200 ?_)
 have h1:(if p.m.serving > c then p.m.serving else c)=max c p.m.serving:=by omega
 have h2:(if p.m.serving < c then p.m.serving else c)=min c p.m.serving:=by omega
 delta c148 oO oN oA oM oT oG oR oQ oS oK oF oL
 simp (maxSteps:=4000000) -implicitDefEqProofs only [rv148,phX,phC,lR,nbr,h1,h2,WU,Ent.of0,Ent.of1,Ent.of2,Ent.of3,Ent.of4,V,W3,↓reduceIte,seval,reduceCtorEq]
 congr 1
 funext x
 exact decide_eq_decide.2 eq_comm
def nY (n:Nw) (p:Ph) (c:Int):Ent Tryz.prog:=eo 148 n p p [.ptr 100000 0,enc c] (enc (nbr n c p.m.serving)) trivial (near_c n p c)
end Go.Proofs.YtcbabnbiinkafaaGreatDoor
end
section
open Go Go.Am Go.RowKit Go.Lib Go.Proofs
open Go.Am.Dat (cells)
namespace Go.Proofs.YtcbabnbiinkafaaGreatDoor
set_option maxHeartbeats 4000000
set_option maxRecDepth 100000
theorem vk {g:Nat} (hg:qh g) (xs:List Int) (h:xs.length≤1000000) {E:Env} {U:Nat→Prop} {w:World} {ch:Chs} {k kc kp:Nat} {cs:List C} {got:Int} {d:Nat} (hi:Inv E U w.heap ch) (hk0:lk ch k=some (.row 1 3 (xs.map Dat.cells))) (h1:lk ch kc=some (.box [.ptr kp 0])) (h2:lk ch kp=some (.box cs)) (h3:cs[8]? = some (.s (.int .i64 got))) :
 Calls Tryz.prog 182 #[slV (E k).toKE0,.func (.func g) #[] #[.pointer (some ⟨(E kc).blk,0,none⟩)]] w fun e w'=>∃ v E' U',e=.returned v∧Rep E' U' w'.heap (.own k) v∧Ev E U w ch [(k,.c .any)] d E' U' w' (am (ae [(k,.c .any)] ch) k (.row 1 3 ((frm xs got).map Dat.cells))):=by
 have m0:=dG hk0
 have m1:=dG h1
 have m2:=dG h2
 obtain ⟨hrow,hfp⟩:=hi.ok k _ m0
 obtain ⟨⟨n1,arr1,ty1,b1,b2,b3⟩,f1,_⟩:=hi.ok kc _ m1
 obtain ⟨⟨n2,arr2,ty2,d1,d2,d3⟩,f2,_⟩:=hi.ok kp _ m2
 have v1:arr1[0]? = some (.pointer (some ⟨(E kp).blk,0,none⟩)):=by
  have:=b3 0 _ rfl
  rcases this with ⟨q,_⟩ | ⟨⟨_,_,_,q⟩,_⟩
  · have hq:=fG q
    have hlt:0 < arr1.size:=by rw [b2]; simp
    rw [Array.getD_eq_getD_getElem?,Array.getElem?_eq_getElem hlt] at hq
    rw [Array.getElem?_eq_getElem hlt]; simpa using hq
  · cases q
 have v2:arr2[8]? = some (.int .i64 got):=by
  have:=d3 8 _ h3
  rcases this with ⟨q,_⟩ | ⟨⟨_,_,_,q⟩,_⟩
  · have hq:=dJ q
    have hlt:8 < arr2.size:=by rw [d2]; exact (List.getElem?_eq_some_iff.1 h3).1
    rw [Array.getD_eq_getD_getElem?,Array.getElem?_eq_getElem hlt] at hq
    rw [Array.getElem?_eq_getElem hlt]; simpa using hq
  · cases q
 have o1:(E kc).fp (E kc).blk:=(f1.fp _).2 (.inl ⟨n1,rfl⟩)
 have o2:(E kp).fp (E kp).blk:=(f2.fp _).2 (.inl ⟨n2,rfl⟩)
 have hkc:kc≠k:=fun e=>by rw [e,hk0] at h1; cases h1
 have hkp:kp≠k:=fun e=>by rw [e,hk0] at h2; cases h2
 have hl:=hrow.1
 simp only [List.length_map] at hl
 cases hn:(E k).nil with
 | true=>
  have hx:xs=[]:=by
   rcases hrow.2.2.2 with ⟨_,g⟩ | ⟨g,_⟩
   · simpa using g
   · rw [hn] at g; cases g
  subst hx
  have hsv:slV (E k).toKE0=.slice none 0 0:=by simp [slV,hn]
  rw [hsv]
  refine (del_nil _ w).mono ?_
  rintro e w' ⟨rfl,rfl⟩
  have he:=Ev.rekey (w1:=w') (c1:=.row 1 3 ((frm [] got).map Dat.cells)) (x:=E k) (d:=d) hi hk0 rfl rfl rfl (Nat.le_refl _) (fun b _ _=>rfl) (fun b hb=>.inr hb) (fun cs h=>by cases h) (fun hkeep=>by
   simp only [dM,updE_same]
   exact ⟨hrow,hfp⟩)
  refine ⟨_,_,U,rfl,?_,he⟩
  have:=Rep.own (E:=dN E k (E k)) (U:=U) (h:=w'.heap) k
  rw [updE_same,hsv] at this
  exact this
 | false=>
  obtain ⟨c1,c2,arr,hab,_,_⟩:=iE hrow hn
  have o0:(E k).fp (E k).blk:=(hfp.fp _).2 (.inl ⟨hn,rfl⟩)
  have ne1:(E kc).blk≠(E k).blk:=fun e=>hi.sep kc _ k _ m1 m0 hkc _ o1 (e ▸ o0)
  have ne2:(E kp).blk≠(E k).blk:=fun e=>hi.sep kp _ k _ m2 m0 hkp _ o2 (e ▸ o0)
  have hmx:maxLen≤9223372036854775807:=by decide
  have hsv:∀ n,slV { (E k).toKE0 with len:=n }=.slice (some ⟨(E k).blk,(E k).off,none⟩) n (E k).cap:=fun n=>by simp [slV,hn]
  have hsv0:slV (E k).toKE0=.slice (some ⟨(E k).blk,(E k).off,none⟩) xs.length (E k).cap:=by simp [slV,hn,hl]
  rw [hsv0]
  have hp:PredAt Tryz.prog g #[.pointer (some ⟨(E kc).blk,0,none⟩)] (Value.int .i64) (fun x=>decide (x < got)) w:=fun W x hb=>by
   show Calls _ _ (#[Value.int .i64 x]++_) _ _
   refine (hg.2 W x got (E kc).blk (E kp).blk ?_ ?_).mono ?_
   · have:=hb.block _ (lt_of_getElem? b1)
     simp only [World.cell?,this,b1]; simpa using v1
   · have:=hb.block _ (lt_of_getElem? d1)
     simp only [World.cell?,this,d1]; simpa using v2
   · rintro e w' ⟨rfl,rfl⟩; exact ⟨rfl,0,rfl⟩
  have hpo:PredOver Tryz.prog g #[.pointer (some ⟨(E kc).blk,0,none⟩)] (Value.int .i64) (fun x=>decide (x < got)) (E k).blk (E k).off xs.toArray.size w:=fun n os dk x hdk=>by
   have hold:∀ b,b < w.heap.size→b≠(E k).blk→(sortWorld (Value.int .i64) w (E k).blk (E k).off n dk os).heap[b]? = w.heap[b]?:=fun b hb hbn=>by
    show ((Sort.putRow (Value.int .i64) (Sort.ahead w n) (E k).blk (E k).off dk).heap++os)[b]? = _
    rw [Array.getElem?_append_left (by simpa [Sort.ahead] using hb),fX,if_neg (fun e=>hbn e.symm)]
    rfl
   show Calls _ _ (#[Value.int .i64 x]++_) _ _
   refine (hg.2 _ x got (E kc).blk (E kp).blk ?_ ?_).mono ?_
   · have:=hold _ (lt_of_getElem? b1) ne1
     simp only [World.cell?,this,b1]; simpa using v1
   · have:=hold _ (lt_of_getElem? d1) ne2
     simp only [World.cell?,this,d1]; simpa using v2
   · rintro e w' ⟨rfl,rfl⟩; exact ⟨rfl,0,rfl⟩
  have hz:∀ w,(zeroValue 3).run Tryz.prog w=.ok (.int .i64 0) w:=fun w=>by
   have hmap:(Tryz.prog.info? 3).map (fun i=>i.zero)=some (some (.int .i64 0)):=by kernel_rfl
   obtain ⟨i0,hi0,hq⟩:=Option.map_eq_some_iff.1 hmap
   exact gC hi0 hq
  refine (AnyE.slices_DeleteFunc Tryz.laysSlH10_f182 (Value.int .i64) oneI (fun x=>decide (x < got)) g _ hg.1 0 hz (E k).blk (E k).off (E k).cap xs.toArray w hp hpo (pX hrow hn) (by simp; omega) (by simpa using c1)).mono ?_
  rintro e w' ⟨rfl,q,rfl⟩
  have hF:(xs.toArray.toList.filter fun x=>!(decide (x < got)))=frm xs got:=s8 xs got
  rw [hF]
  have hfl:(frm xs got).length≤xs.length:=List.length_filter_le _ _
  have hblk:(E k).blk < w.heap.size:=lt_of_getElem? hab
  have he:=Ev.rekey (w1:=Sort.putRow (Value.int .i64) (Sort.ahead w q) (E k).blk (E k).off ((frm xs got)++List.replicate (xs.toArray.size - (frm xs got).length) 0).toArray) (c1:=.row 1 3 ((frm xs got).map Dat.cells)) (x:={ E k with len:=(frm xs got).length }) (d:=d) hi hk0 rfl rfl rfl (by simp [Sort.ahead]) (fun b hb hnb=>by
   have hne:¬ (E k).blk=b:=fun e=>hnb (e ▸ o0)
   rw [fX,if_neg hne]; rfl) (fun b hb=>.inr hb) (fun cs h=>by cases h) (fun hkeep=>by
   simp only [dM,updE_same]
   refine ⟨?_,⟨hfp.fp,hfp.ne,hfp.sep⟩⟩
   exact sJ hrow hn hab (by
    rw [fX,if_pos rfl]
    show (w.heap[(E k).blk]?).map _=_
    rw [hab]; rfl) (frm xs got) (by simp) (by simp; omega) (fun j x hj=>by
    have hjl:=(List.getElem?_eq_some_iff.1 hj).1
    rw [List.getElem?_toArray,List.getElem?_append_left hjl]; exact hj))
  refine ⟨_,_,U,rfl,?_,he⟩
  have:=Rep.own (E:=dN E k { E k with len:=(frm xs got).length }) (U:=U) (h:=(Sort.putRow (Value.int .i64) (Sort.ahead w q) (E k).blk (E k).off ((frm xs got)++List.replicate (xs.toArray.size - (frm xs got).length) 0).toArray).heap) k
  rw [updE_same] at this
  show Rep _ _ _ _ (.slice (some ⟨(E k).blk,(E k).off,none⟩) (frm xs got).length (E k).cap)
  rw [← hsv]; exact this
theorem OpM.delF {ro:Option Nat} {ρ:Operand→C} {ch:Chs} {d:Nat} {g k kc kp:Nat} {x y:Operand} (hg:qh g) (xs:List Int) (h:xs.length≤1000000) {cs:List C} {got:Int} (hx:ρ x=.own k) (hy:ρ y=.fn (.func g) [] [.ptr kc 0]) (hfo:ρ (.func 182)=.fn (.func 182) [] []) (hk0:lk ch k=some (.row 1 3 (xs.map Dat.cells))) (h1:lk ch kc=some (.box [.ptr kp 0])) (h2:lk ch kp=some (.box cs)) (h3:cs[8]? = some (.s (.int .i64 got))) :
 OpM Tryz.prog ro ρ ch d (.call (.func 182) [x,y]) (fun ef=>ef=⟨True,.own k,am (ae [(k,.c .any)] ch) k (.row 1 3 ((frm xs got).map Dat.cells)),[(k,.c .any)]⟩):=
 OpM.calls ⟨_,Tryz.func182,by kernel_rfl,by kernel_rfl⟩ hfo (fun E U w vs hi hgl ha=>by
  obtain ⟨hs,hr⟩:=ha
  have a0:vs.getD 0 undef=slV (E k).toKE0:=eU (hr 0 (.own k) (by simp [hx]))
  have a1:vs.getD 1 undef=.func (.func g) #[] #[.pointer (some ⟨(E kc).blk,0,none⟩)]:=by
   have:=hr 1 (.fn (.func g) [] [.ptr kc 0]) (by simp [hy])
   generalize vs.getD 1 undef=v at this
   cases this with
   | d hd=>cases hd
   | fn _ _ _ vs ws hl1 hr1 hl2 hr2=>
    have e1:vs=#[]:=Array.size_eq_zero_iff.1 (by simpa using hl1)
    have e2:=args1 (aS:=ws) (by simpa using hl2) (fG (hr2 0 _ rfl))
    rw [e1,e2]
  rw [args2 (by simpa using hs) a0 a1]
  exact vk hg xs h hi hk0 h1 h2 h3)
end Go.Proofs.YtcbabnbiinkafaaGreatDoor
end
section
open Go Go.Am
open Go.Am.Dat (cells)
namespace Go.Proofs.YtcbabnbiinkafaaGreatDoor
set_option maxHeartbeats 4000000
set_option maxRecDepth 100000
theorem srt_mrg (b:List (List Int)):fP b.flatten=mrg b:=by
 have h1:(fP b.flatten).Perm (mrg b):=(List.mergeSort_perm _ _).trans (lw b).symm
 have h2:(fP b.flatten).Pairwise (·≤·):=by
  have:=List.pairwise_mergeSort (le:=fun x y:Int=>decide (x≤y)) (fun a b c h1 h2=>by simp at *; omega) (fun a b=>by simp; omega) b.flatten
  exact this.imp (fun h=>by simpa using h)
 exact h1.eq_of_pairwise (fun a b _ _ h1 h2=>by omega) h2 (ou b)
def ul (l:List Int) (h:l.length≤1000000):Ent Tryz.prog:=.mk3 179 (fun args chs=>some (args=[vaF l]∧chs=[],.own 4,[(4,.row 1 3 ((fP l).map Dat.cells))],[4])) (by
 intro args chs p r chs' nk hs hp
 simp only [Option.some.injEq,Prod.mk.injEq] at hs
 obtain ⟨rfl,rfl,rfl,rfl⟩:=hs
 obtain ⟨rfl,rfl⟩:=hp
 exact ⟨vw l h,wfr1 (fun cs h=>by cases h)⟩)
theorem tV (n:Nw) (p:Ph) (c t:Int) (hn:NwS n) (hc:0≤c∧c.toNat < n.cells.length) (hlen:p.m.buf.length=n.cells.length) (h1:p.m.buf.length≤1000) (h2:p.m.buf.flatten.length≤1000000) (hs:0 < p.stays.length∧p.stays.length≤1000000) (ho:p.out≠-1→InR .i64 (t - p.out)) :
 FC Tryz.prog 166 [.ptr 100000 0,enc c,enc t] (phX n p) (.tup []) (phX n (lf p c t)):=by
 refine dC [100001] D3.is166 (by simp) (dQ n p) (dD n p) (dD n _) (dH n p _) (fun cx _ hl _=>dB [uo,um,ul p.m.buf.flatten h2] 1200 ?_)
 have hbm:(fO p.m.buf).map (fun es=>[C.sl 1 es])=p.m.buf.map Dat.cells:=by
  simp only [fO,List.map_map] <;> rfl
 delta D3.c166 oO oN oA oM oT oG oR oQ oS oK oF oL
 simp (maxSteps:=4000000) -implicitDefEqProofs only [D3.rv166,phX,phC,uo,um,ul,hbm,h1,h2,vaF,WU,Ent.of0,Ent.of1,Ent.of2,Ent.of3,Ent.of4,V,W3,↓reduceIte,seval,reduceCtorEq]
 refine o7 rfl (OpM.delF vD (fP p.m.buf.flatten) (by rw [fP,List.length_mergeSort]; exact h2) rfl rfl rfl rfl rfl rfl rfl) (fun ef he=>?_)
 subst he
 rw [srt_mrg]
 refine ny [] 800 ?_
 simp (maxSteps:=4000000) -implicitDefEqProofs only [D3.rv166,WU,Ent.of0,Ent.of1,Ent.of2,Ent.of3,Ent.of4,V,W3,↓reduceIte,seval,reduceCtorEq]
 refine nB [] 400 ?_
 simp (maxSteps:=4000000) -implicitDefEqProofs only [drS,lB,robC,reC,fixS,eP,AOp.reads,true_or,or_true,false_or,InR,WU,Ent.of0,Ent.of1,Ent.of2,Ent.of3,Ent.of4,V,W3,↓reduceIte,seval,reduceCtorEq]
 have hcl:=hn.c
 refine ⟨by omega,?_⟩
 refine fD (dW.deepen (kk:=25) (isz:=1) (ity:=3) (ty:=24) (es:=List.replicate n.cells.length [C.s (.slice none 0 0)]) rfl (fun e he=>List.eq_of_mem_replicate he)) ?_
 have hdl:(List.replicate n.cells.length ([]:List (List C))).length=n.cells.length:=List.length_replicate
 have hd:(List.replicate n.cells.length ([]:List (List C))).set c.toNat ((frm (mrg p.m.buf) p.m.got).map Dat.cells)=fO ((p.m.buf.map fun _=>([]:List Int)).set c.toNat (frm (mrg p.m.buf) p.m.got)):=by
  rw [← jR]
  congr 1
  simp only [fO,List.map_map]
  rw [← hlen]
  clear hdl
  induction p.m.buf with
  | nil=>rfl
  | cons b bs ih=>
   rw [List.length_cons,List.replicate_succ,ih]; rfl
 have hc1:c < (n.cells.length:Int):=by omega
 obtain ⟨hc0,hc2⟩:=hc
 generalize hB:(p.m.buf.map fun _=>([]:List Int)).set c.toNat (frm (mrg p.m.buf) p.m.got)=B at *
 have hs1:0 < ({ p with m:={ p.m with buf:=B } }:Ph).stays.length∧({ p with m:={ p.m with buf:=B } }:Ph).stays.length≤1000000:=hs
 refine dB [n5 n { p with m:={ p.m with buf:=B } } c t hs1,kN n (kn { p with m:={ p.m with buf:=B } } c t) t ho] 1500 ?_
 simp (maxSteps:=4000000) -implicitDefEqProofs only [cB,n5,kN,eo,phX,phC,List.map_replicate,hdl,hd,hc0,hc1,hc2,kn,kW,InR,WU,Ent.of0,Ent.of1,Ent.of2,Ent.of3,Ent.of4,V,W3,↓reduceIte,seval,reduceCtorEq]
 refine ⟨.inl trivial,?_⟩
 refine kH [] 800 ?_
 simp (maxSteps:=4000000) -implicitDefEqProofs only [drM,mFin,kw,ly,ia,reM,it,gU,gJ,ndE,an,ag,av,aT,aF,WU,Ent.of0,Ent.of1,Ent.of2,Ent.of3,Ent.of4,V,W3,↓reduceIte,seval,reduceCtorEq]
 refine fD (dW.ren [(25,100001)] rfl (by simp [an,ag,av,rn,lk]) (by simp [jm,rn,lk])) ?_
 refine dB [] 100 ?_
 simp (maxSteps:=4000000) -implicitDefEqProofs only [renS,bt,D3.rv166,lf,iO,hB,WU,Ent.of0,Ent.of1,Ent.of2,Ent.of3,Ent.of4,V,W3,↓reduceIte,seval,reduceCtorEq]
structure ConOk (n:Nw) (p:Ph) (c t:Int):Prop where
 hn:NwS n
 hc:0≤c∧c.toNat < n.cells.length
 hlen:p.m.buf.length=n.cells.length
 h1:p.m.buf.length≤1000
 h2:p.m.buf.flatten.length≤1000000
 hs:0 < p.stays.length∧p.stays.length≤1000000
 ho:p.out≠-1→InR .i64 (t - p.out)
def nZ (n:Nw) (p:Ph) (c t:Int) (h:ConOk n p c t):Ent Tryz.prog:=eo 166 n p (lf p c t) [.ptr 100000 0,enc c,enc t] (.tup []) trivial (tV n p c t h.hn h.hc h.hlen h.h1 h.h2 h.hs h.ho)
theorem pass_c (n:Nw) (p:Ph) (t:Int) (hd:InR .i64 (p.m.since+n.limit)) (h:jI n p.m t=true→ConOk n p 0 (p.m.since+n.limit)):FC Tryz.prog 151 [.ptr 100000 0,enc t] (phX n p) (.tup []) (phX n (eO n p t)):=by
 have hP:jI n p.m t=(ei p.m && decide (p.m.since+n.limit≤t)):=rfl
 cases hb:jI n p.m t
 · have hq:eO n p t=p:=by rw [eO,if_neg (by simp [hb])]
   rw [hq]
   refine dC [100001] is151 (by simp) (dQ n p) (dD n p) (dD n _) (dH n p _) (fun cx _ hl _=>dB [e9 n p,nV n p hd] 1200 ?_)
   rw [hb] at hP
   cases h1:ei p.m <;> cases h2:decide (p.m.since+n.limit≤t)
   all_goals
    first
     | (rw [h1,h2] at hP; cases hP; done)
     | (have h2':=h2
        simp only [decide_eq_true_eq,decide_eq_false_iff_not] at h2'
        delta c151 oO oN oA oM oT oG oR oQ oS oK oF oL
        simp (maxSteps:=4000000) -implicitDefEqProofs only [rv151,phX,phC,e9,nV,eo,h1,h2,h2',WU,Ent.of0,Ent.of1,Ent.of2,Ent.of3,Ent.of4,V,W3,↓reduceIte,seval,reduceCtorEq])
 · have hq:eO n p t=lf p 0 (p.m.since+n.limit):=by rw [eO,if_pos hb]
   rw [hq]
   have hc:=h hb
   rw [hb] at hP
   refine dC [100001] is151 (by simp) (dQ n p) (dD n p) (dD n _) (dH n p _) (fun cx _ hl _=>dB [e9 n p,nV n p hd,nZ n p 0 (p.m.since+n.limit) hc] 1200 ?_)
   cases h1:ei p.m <;> cases h2:decide (p.m.since+n.limit≤t)
   all_goals
    first
     | (rw [h1,h2] at hP; cases hP; done)
     | (have h2':=h2
        simp only [decide_eq_true_eq,decide_eq_false_iff_not] at h2'
        delta c151 oO oN oA oM oT oG oR oQ oS oK oF oL
        simp (maxSteps:=4000000) -implicitDefEqProofs only [rv151,phX,phC,e9,nV,nZ,eo,h1,h2,h2',WU,Ent.of0,Ent.of1,Ent.of2,Ent.of3,Ent.of4,V,W3,↓reduceIte,seval,reduceCtorEq])
theorem uW (n:Nw) (p:Ph) (e:T3):FC Tryz.prog 279 [.ptr 100000 0,enc e] (phX n p) (enc (0:Int)) (phX n p):=by
 refine dC [100001] is279 (by simp) (dQ n p) (dD n p) (dD n _) (dH n p _) (fun cx _ hl _=>dB [] 1500 ?_)
 delta c279 oO oN oA oM oT oG oR oQ oS oK oF oL
 simp (maxSteps:=4000000) -implicitDefEqProofs only [rv279,phX,phC,dX,WU,Ent.of0,Ent.of1,Ent.of2,Ent.of3,Ent.of4,V,W3,↓reduceIte,seval,reduceCtorEq]
theorem vA (n:Nw) (p:Ph) (e:T3) (h:¬ p.m.phase=1):FC Tryz.prog 272 [.ptr 100000 0,enc e] (phX n p) (enc (22:Int)) (phX n (p)):=by
 refine dC [100001] D3.is272 (by simp) (dQ n p) (dD n p) (dD n _) (dH n p _) (fun cx _ hl _=>dB [] 1500 ?_)
 delta D3.c272 oO oN oA oM oT oG oR oQ oS oK oF oL
 simp (maxSteps:=4000000) -implicitDefEqProofs only [D3.rv272,phX,phC,dX,h,WU,Ent.of0,Ent.of1,Ent.of2,Ent.of3,Ent.of4,V,W3,↓reduceIte,seval,reduceCtorEq]
theorem tR (n:Nw) (p:Ph) (e:T3) (h:p.m.phase=1):FC Tryz.prog 272 [.ptr 100000 0,enc e] (phX n p) (enc (0:Int)) (phX n ({ p with m:={ p.m with phase:=0,since:=e.y,target:=-1 } })):=by
 refine dC [100001] D3.is272 (by simp) (dQ n p) (dD n p) (dD n _) (dH n p _) (fun cx _ hl _=>dB [] 1500 ?_)
 delta D3.c272 oO oN oA oM oT oG oR oQ oS oK oF oL
 simp (maxSteps:=4000000) -implicitDefEqProofs only [D3.rv272,phX,phC,dX,h,WU,Ent.of0,Ent.of1,Ent.of2,Ent.of3,Ent.of4,V,W3,↓reduceIte,seval,reduceCtorEq]
 refine kH [] 800 ?_
 simp (maxSteps:=4000000) -implicitDefEqProofs only [drM,mFin,kw,ly,ia,reM,it,gU,gJ,ndE,an,ag,av,aT,aF,WU,Ent.of0,Ent.of1,Ent.of2,Ent.of3,Ent.of4,V,W3,↓reduceIte,seval,reduceCtorEq]
 refine dB [] 400 ?_
 simp (maxSteps:=4000000) -implicitDefEqProofs only [D3.rv272,phX,phC,WU,Ent.of0,Ent.of1,Ent.of2,Ent.of3,Ent.of4,V,W3,↓reduceIte,seval,reduceCtorEq]
theorem tU (n:Nw) (p:Ph) (e:T3) (h:¬ p.m.phase=1):FC Tryz.prog 273 [.ptr 100000 0,enc e] (phX n p) (enc (22:Int)) (phX n (p)):=by
 refine dC [100001] D3.is273 (by simp) (dQ n p) (dD n p) (dD n _) (dH n p _) (fun cx _ hl _=>dB [] 1500 ?_)
 delta D3.c273 oO oN oA oM oT oG oR oQ oS oK oF oL
 simp (maxSteps:=4000000) -implicitDefEqProofs only [D3.rv273,phX,phC,dX,h,WU,Ent.of0,Ent.of1,Ent.of2,Ent.of3,Ent.of4,V,W3,↓reduceIte,seval,reduceCtorEq]
theorem sV (n:Nw) (p:Ph) (e:T3) (h:p.m.phase=1):FC Tryz.prog 273 [.ptr 100000 0,enc e] (phX n p) (enc (0:Int)) (phX n (iR { p with m:={ p.m with phase:=2,since:=e.y } } e.y)):=by
 refine dC [100001] D3.is273 (by simp) (dQ n p) (dD n p) (dD n _) (dH n p _) (fun cx _ hl _=>dB [] 1500 ?_)
 delta D3.c273 oO oN oA oM oT oG oR oQ oS oK oF oL
 simp (maxSteps:=4000000) -implicitDefEqProofs only [D3.rv273,phX,phC,dX,h,WU,Ent.of0,Ent.of1,Ent.of2,Ent.of3,Ent.of4,V,W3,↓reduceIte,seval,reduceCtorEq]
 refine kH [] 800 ?_
 simp (maxSteps:=4000000) -implicitDefEqProofs only [drM,mFin,kw,ly,ia,reM,it,gU,gJ,ndE,an,ag,av,aT,aF,WU,Ent.of0,Ent.of1,Ent.of2,Ent.of3,Ent.of4,V,W3,↓reduceIte,seval,reduceCtorEq]
 refine dB [lU n { p with m:={ p.m with phase:=2,since:=e.y } } e.y] 600 ?_
 simp (maxSteps:=4000000) -implicitDefEqProofs only [D3.rv273,phX,phC,lU,eo,iR,WU,Ent.of0,Ent.of1,Ent.of2,Ent.of3,Ent.of4,V,W3,↓reduceIte,seval,reduceCtorEq]
theorem nR (n:Nw) (p:Ph) (e:T3) (h:¬ p.m.phase=2):FC Tryz.prog 274 [.ptr 100000 0,enc e] (phX n p) (enc (22:Int)) (phX n (p)):=by
 refine dC [100001] D3.is274 (by simp) (dQ n p) (dD n p) (dD n _) (dH n p _) (fun cx _ hl _=>dB [] 1500 ?_)
 delta D3.c274 oO oN oA oM oT oG oR oQ oS oK oF oL
 simp (maxSteps:=4000000) -implicitDefEqProofs only [D3.rv274,phX,phC,dX,h,WU,Ent.of0,Ent.of1,Ent.of2,Ent.of3,Ent.of4,V,W3,↓reduceIte,seval,reduceCtorEq]
end Go.Proofs.YtcbabnbiinkafaaGreatDoor
end
