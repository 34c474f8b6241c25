/- Part 10 of the proof of: the statements about chapter 8 -/
import Derived.WalkKit
import Derived.Lib.Walk
import Derived.LoopN
import Derived.Shelf.Slices.Empties
import Derived.Lib.AppendZerosOnto
import Derived.Lib.SliceRun
import Derived.Test.YtcbabnbiinkafaaGreatDoorBu9
set_option linter.all false
set_option maxHeartbeats 8000000
set_option maxRecDepth 100000
section
open Go Go.Am
open Go.Am.Dat (cells)
namespace Go.Proofs.YtcbabnbiinkafaaGreatDoor
theorem pO (n:Nw) (h:NwS n):FC Tryz.prog 37 [enc n] [] (enc n) []:=by
 have hbc:=h.c;have hbb:=h.b;refine dD [] D2.is37 (by simp) trivial trivial trivial trivial (fun cx _ hl _=>dC [ent98] 800 ?_);delta D2.c37 oO oA oT oS oK oF oL oC oX o2 o7;simp only[D2.rv37,eO,hbc,WU,V,W3,seval];refine mz (T:=cnT (n.cells.map Dat.cells) (n.nb.map Dat.cells) n.limit) ⟨fun x=>?_,lS _ _ _ _,?_⟩ (fun S j ao hj hSj hp hs=>?_) (fun S hS=>dC [] 800 ?_)
 . simp only[cnT,cnA,eE,zr,qi]
   repeat' split
   all_goals first | exact .inl rfl | exact .inr rfl
 . simp[cnT,lk]
 . have hp':∀ c∈cnRb,c % 100=j->S (c / 100)=true:=hp;have hs':∀ c∈cnRb,S (c % 100)=true->S (c / 100)=true:=hs;clear hp hs;rcases j with _|_|_|_|_|_|_|_|_|_|_|j <;> simp only[zD,yp,Nat.reduceAdd,List.getElem?_nil,reduceCtorEq,zn,zz]at hj
   all_goals
    subst hj;simp[cnRb]at hp'
    try simp only[zz,Nat.reduceAdd]at hSj ⊢
   . refine⟨⟨_,.ptr 1 0,_,[]⟩,.yes _ rfl (.f (by simp only[ai,aq,eU,eE,cnA,hp',jE,qj,Nat.reduceEqDiff,qi] <;> rfl) (by simp)),jS (by simp[cnT]) (fun x=>?_)⟩
     . rw[eU,eU];simp only[eE,cnA];by_cases hx:3=x
       . subst hx;simp[au]
       . simp[hx]
   . refine⟨⟨_,.sl 1 (n.cells.map Dat.cells),_,[]⟩,.yes _ rfl (.f (by simp only[ai,aq,eU,eE,cnA,hp',jE,qj,Nat.reduceEqDiff,qi] <;> rfl) (by simp)),jS (by simp[cnT]) (fun x=>?_)⟩
     . rw[eU,eU];simp only[eE,cnA];by_cases hx:4=x
       . subst hx;simp[au]
       . simp[hx]
   . refine⟨⟨True,.sl 1 (n.cells.map Dat.cells),_,[]⟩,.yes _ rfl (jh (L:=[ent98]) (ef:=⟨True,.sl 1 (n.cells.map Dat.cells),(cnT (n.cells.map Dat.cells) (n.nb.map Dat.cells) n.limit S).ch,[]⟩) ?_ trivial),jS (by simp[cnT]) (fun x=>?_)⟩
     . simp only[ent98,eU,eE,cnA,hp',hbc,aE,Ent.of1,V,W3,seval]
     . rw[eU,eU];simp only[eE,cnA];by_cases hx:5=x
       . subst hx;simp[au]
       . simp[hx]
   . have hS6:S 6=false:=by
      cases hc:S 6
      . rfl
      . have:=hs' 306 (by simp[cnRb]) hc;rw[hSj]at this;exact this.symm ▸ rfl
     refine⟨⟨_,.own 6,(6,.row 2 40 []) :: ae [(6,.c .any)] (af (cnT (n.cells.map Dat.cells) (n.nb.map Dat.cells) n.limit S).ch 6),[(6,.c .any)]⟩,.yes _ rfl (.f (by simp only[ai,aq,zN,List.isEmpty_nil,qj] <;> rfl) (by simp[Value.oneCell'])),.of_le ⟨fun x=>?_,lS _ _ _ _,?_⟩⟩
     . simp only[aw,fm,eU,eE,cnA,hSj,hS6];by_cases hx:6=x
       . subst hx;simp
       . right;simp[hx,sv,ah,ah.subCs,List.lookup,gt,lk]
     . simp[cnT,hSj,hS6,aw];cases hs10:S 10 <;> simp[af,ae,lk,ah]
   . refine⟨⟨_,.ptr 1 1,_,[]⟩,.yes _ rfl (.f (by simp only[ai,aq,eU,eE,cnA,hp',jE,qj,Nat.reduceEqDiff,qi] <;> rfl) (by simp)),jS (by simp[cnT]) (fun x=>?_)⟩
     . rw[eU,eU];simp only[eE,cnA];by_cases hx:7=x
       . subst hx;simp[au]
       . simp[hx]
   . refine⟨⟨_,.sl 2 (n.nb.map Dat.cells),_,[]⟩,.yes _ rfl (.f (by simp only[ai,aq,eU,eE,cnA,hp',jE,qj,Nat.reduceEqDiff,qi] <;> rfl) (by simp)),jS (by simp[cnT]) (fun x=>?_)⟩
     . rw[eU,eU];simp only[eE,cnA];by_cases hx:8=x
       . subst hx;simp[au]
       . simp[hx]
   . obtain⟨k0,k1,k2,k3,k4,k5⟩:=hp';have hlk6:lk (cnT (n.cells.map Dat.cells) (n.nb.map Dat.cells) n.limit S).ch 6=some (.row 2 40 []):=by simp[cnT,k3,hSj,lk]
     have ho:∃ p,ai (aq Tryz.prog (cnT (n.cells.map Dat.cells) (n.nb.map Dat.cells) n.limit S).t) (cnT (n.cells.map Dat.cells) (n.nb.map Dat.cells) n.limit S).ch 9 (.app 45 40 2 16 [.int .i64 0,.int .i64 0] (.tmp 6) (.tmp 8))=some ⟨p,.own 6,am (ae [(6,.c .any)] (cnT (n.cells.map Dat.cells) (n.nb.map Dat.cells) n.limit S).ch) 6 (.row 2 40 ([]++n.nb.map Dat.cells)),[(6,.c .any)]⟩/\p:=by
      refine⟨(([]:List (List C)).length+(n.nb.map Dat.cells).length)*16<=140737488355328/\([]:List (List C)).length+(n.nb.map Dat.cells).length<=9223372036854775807,?_,?_⟩
      . simp[ai,aq,eU,eE,cnA,k3,k5,hSj,hlk6,aV,cN]
      . simp only[yh,zy];omega
     obtain⟨p,ho,hpp⟩:=ho;refine⟨_,.yes _ rfl (.f ho hpp),.fzle [6] ⟨fun x=>?_,lS _ _ _ _,?_⟩⟩
     . have hfz:bf (am (ae [(6,.c .any)] (cnT (n.cells.map Dat.cells) (n.nb.map Dat.cells) n.limit S).ch) 6 (.row 2 40 ([]++n.nb.map Dat.cells))) [6]=[(6,.c (.sl 2 (n.nb.map Dat.cells)))]:=by
        simp[bf,cnT,k3,hSj,ae,am,lk,bz]
       simp only[cd,aw,hfz,ie,fm,eU,eE,cnA,hSj,k3];by_cases hx:9=x
       . subst hx;simp[ah,List.lookup]
       . by_cases hx6:6=x
         . subst hx6;simp
         . right;simp[hx,hx6,sv,ah,ah.subCs,List.lookup,gt,lk]
     . have hfz:bf (am (ae [(6,.c .any)] (cnT (n.cells.map Dat.cells) (n.nb.map Dat.cells) n.limit S).ch) 6 (.row 2 40 ([]++n.nb.map Dat.cells))) [6]=[(6,.c (.sl 2 (n.nb.map Dat.cells)))]:=by
        simp[bf,cnT,k3,hSj,ae,am,lk,bz]
       simp only[cd,aw,hfz];simp[cnT,k3,hSj];cases hs10:S 10 <;> simp[ae,am,lk,ah,aB,af]
   . refine⟨⟨_,.ptr 1 2,_,[]⟩,.yes _ rfl (.f (by simp only[ai,aq,eU,eE,cnA,hp',jE,qj,Nat.reduceEqDiff,qi] <;> rfl) (by simp)),jS (by simp[cnT]) (fun x=>?_)⟩
     . rw[eU,eU];simp only[eE,cnA];by_cases hx:10=x
       . subst hx;simp[au]
       . simp[hx]
   . refine⟨⟨_,.s (.int .i64 n.limit),_,[]⟩,.yes _ rfl (.f (by simp only[ai,aq,eU,eE,cnA,hp',jE,qj,Nat.reduceEqDiff,qi] <;> rfl) (by simp)),jS (by simp[cnT]) (fun x=>?_)⟩
     . rw[eU,eU];simp only[eE,cnA];by_cases hx:11=x
       . subst hx;simp[au]
       . simp[hx]
   . refine⟨⟨_,.agg [.sl 1 (n.cells.map Dat.cells),.sl 2 (n.nb.map Dat.cells),.s (.int .i64 n.limit)],_,[]⟩,.yes _ rfl (.f (by simp only[ai,aq,eU,eE,cnA,hp',jE,qj,Nat.reduceEqDiff,qi] <;> rfl) (by simp[Value.oneCell'])),jS (by simp[cnT]) (fun x=>?_)⟩
     . rw[eU,eU];simp only[eE,cnA];by_cases hx:12=x
       . subst hx;simp[au]
       . simp[hx]
   . obtain⟨k0,k1,k2,k3,k4,k5,k6,k7,k8,k9⟩:=hp';have hlk2:lk (cnT (n.cells.map Dat.cells) (n.nb.map Dat.cells) n.limit S).ch 2=some (.box [.s (.slice none 0 0),.s (.slice none 0 0),.s (.int .i64 0)]):=by simp[cnT,k3,k6,hSj,lk]
     have ho:∃ p,ai (aq Tryz.prog (cnT (n.cells.map Dat.cells) (n.nb.map Dat.cells) n.limit S).t) (cnT (n.cells.map Dat.cells) (n.nb.map Dat.cells) n.limit S).ch 0 (.store false 3 (.tmp 2) (.tmp 12))=some ⟨p,.s undef,am (cnT (n.cells.map Dat.cells) (n.nb.map Dat.cells) n.limit S).ch 2 (.box [.sl 1 (n.cells.map Dat.cells),.sl 2 (n.nb.map Dat.cells),.s (.int .i64 n.limit)]),[]⟩/\p:=by
      refine⟨_,by simp only[ai,aq,eU,eE,cnA,k9,hSj,hlk2,qj,Nat.reduceEqDiff,qi] <;> rfl,?_⟩;simp[aj,aR,aL,Value.oneCell']
     obtain⟨p,ho,hpp⟩:=ho;refine⟨_,.yes _ rfl (.f ho hpp),.of_le ⟨fun x=>?_,lS _ _ _ _,?_⟩⟩
     . simp only[aw,eU,aU];right;rw[ie,eC];simp[cnA]
     . simp[cnT,k3,k6,hSj,aw,am,lk]
 . simp only[cnT,cnA,hS,WU,V,W3,seval]
def ent37 : Ent Tryz.prog:=.of1 37 NwS (fun n=>enc n) (fun n=>by simp[eO,dG,dG.keysIns]) pO
theorem few_nws {n:Nw} (h:few n=true):NwS n:=by
 simp only[few,zm,qf,zx]at h;exact⟨by omega,by omega,fun x hx=>by have:=h.2 x hx;omega⟩
def gV : Nw:=⟨[⟨#[97]⟩,⟨#[98]⟩,⟨#[99]⟩],[⟨0,1⟩,⟨1,2⟩],100⟩
def jg : List T3:=[⟨0,1,0⟩,⟨0,2,0⟩,⟨1,3,0⟩,⟨3,4,1⟩,⟨5,5,0⟩,⟨7,6,0⟩,⟨7,7,0⟩,⟨6,8,0⟩,⟨1,9,0⟩,⟨2,10,0⟩,⟨1,11,0⟩,⟨2,12,0⟩]
structure Ms where
 at_:Int
 vP:Int
 since:Int
 vG:Int
 target:Int
 vS:Int
 path:Int
 fresh:Int
 got:Int
 buf:List (List Int)
 deriving DecidableEq
instance : DatL Ms where
 sz:=10
 agg:=true
 cells m:=[.s (.int .i64 m.at_),.s (.int .i64 m.vP),.s (.int .i64 m.since),.s (.int .i64 m.vG),.s (.int .i64 m.target),.s (.int .i64 m.vS),.s (.int .i64 m.path),.s (.int .i64 m.fresh),.s (.int .i64 m.got),.sl 1 (m.buf.map Dat.cells)]
 dec | [.s (.int .i64 a),.s (.int .i64 b),.s (.int .i64 c),.s (.int .i64 d),.s (.int .i64 e),.s (.int .i64 f),.s (.int .i64 g),.s (.int .i64 h),.s (.int .i64 i),.sl 1 r]=>(fC r).map fun r'=>⟨a,b,c,d,e,f,g,h,i,r'⟩ | _=>none
 ok:=by
  intro l a h;split at h
  . simp only[za]at h;obtain⟨t',h1,rfl⟩:=h;rw[iK h1]
  . cases h
 decN | [.s (.int .i64 a),.s (.int .i64 b),.s (.int .i64 c),.s (.int .i64 d),.s (.int .i64 e),.s (.int .i64 f),.s (.int .i64 g),.s (.int .i64 h),.s (.int .i64 i),.s (.slice none 0 0)]=>some ⟨a,b,c,d,e,f,g,h,i,[]⟩ | _=>none
 okN:=by
  intro l a h;split at h
  . cases h;simp[bt,ca]
  . cases h
 data:=fun a=>rfl
 one:=fun h=>by cases h
 dec_cells:=fun a=>by simp[fM]
theorem qT (m:Ms):enc m=.agg [.s (.int .i64 m.at_),.s (.int .i64 m.vP),.s (.int .i64 m.since),.s (.int .i64 m.vG),.s (.int .i64 m.target),.s (.int .i64 m.vS),.s (.int .i64 m.path),.s (.int .i64 m.fresh),.s (.int .i64 m.got),.sl 1 (m.buf.map Dat.cells)]:=rfl
def fc : List (List Int)->Int
 |[]=>0
 | r :: l=>(r.length:Int)+fc l
theorem sq : ∀ l,0<=fc l
 |[]=>by simp[fc]
 | r :: l=>by have:=sq l;rw[fc];omega
def ed (m:Ms):Bool:=decide (m.vP=2) || decide (m.vP=3)
def dO (m:Ms) (c:Int):List Int:=m.buf.getD c.toNat []
def iy (k:Int):Bool:=decide (k=3) || decide (k=10)
def evE (n:Nw) (e:T3):Int:=
 if decide (0<=e.x/\e.x<=11)=false then 15 else if gc e.y=false then 2 else if iy e.x=true then (if isC n e.z=true then 0 else 6)else if e.z=0 then 0 else 3
def fR : List Int->Int->List Int
 |[],n=>[n]
 | x :: l,n=>if x < n then x :: fR l n else n :: x :: l
def frm (l:List Int) (g:Int):List Int:=l.filter fun x=>decide (g<=x)
def mrg (bs:List (List Int)):List Int:=bs.flatten.foldl fR []
def iA (m:Ms) (c t:Int):Ms:={ m with vP:=0,since:=t,vG:=c,path:=c,target:=-1,vS:=-1,buf:=(m.buf.map fun _=>[]).set c.toNat (frm (mrg m.buf) m.got) }
def jt (n:Nw) (m:Ms) (t:Int):Bool:=ed m && decide (m.since+n.limit<=t)
def p8 (n:Nw) (m:Ms) (t:Int):Ms:=if jt n m t=true then iA m 0 (m.since+n.limit)else m
def kW (n:Nw) (m:Ms) (t:Int):Ms:={ p8 n m t with at_:=t }
def fK (m:Ms):Bool:=decide (m.vS≠-1) && decide (m.path=m.vG) && (dO m m.vS).isEmpty
def settle (m:Ms):Ms:=if fK m=true then { m with vS:=-1 } else m
def dU (m:Ms):Int:=if m.vP=2 then m.vG else m.vS
def toC (m:Ms):Int:=if m.vP=2 then m.target else m.vG
def et (n:Nw) (m:Ms) (e:T3):Int:=
 if e.x=0 then (if 60<=fc m.buf\/1000000<=m.fresh then 16 else 0)
 else if e.x=1 then (if ed m=true then 22 else if dO m m.vG=[]then 12 else if m.got < (dO m m.vG).headD 0 then 14 else 0)
 else if e.x=2 then (if ed m=true then 22 else 0)
 else if e.x=3 then (if m.vP≠0 then 22 else if m.vS≠-1 then 17 else if nbr n e.z m.vG=true then 0 else 6)
 else if e.x=4 then (if m.vP≠1 then 22 else 0)
 else if e.x=5 then (if m.vP≠1 then 22 else 0)
 else if e.x=6 then (if m.vP≠2 then 22 else 0)
 else if e.x=7 then (if m.vP≠2/\(m.vP≠0\/m.vS=-1)then 22 else if dO m (dU m)=[]then 12 else 0)
 else if e.x=8 then (if m.vS=-1 then 12 else if m.vP=3 then 22 else if m.path=m.vG then 26 else 0)
 else if e.x=9 then (if m.vP=3 then 22 else 0)
 else if e.x=10 then (if m.vP≠3 then 22 else if e.z≠m.vG/\(m.target=-1\/e.z≠m.target)/\(m.vS=-1\/e.z≠m.vS)then 6 else 0)
 else 0
def eG (m:Ms) (e:T3):Ms:=
 if e.x=0 then { m with buf:=m.buf.set m.path.toNat (dO m m.path++[m.fresh]),fresh:=m.fresh+1 }
 else if e.x=1 then (if (dO m m.vG).headD 0=m.got then { m with got:=m.got+1 } else m)
 else if e.x=2 then { m with buf:=m.buf.set m.vG.toNat (frm (dO m m.vG) m.got) }
 else if e.x=3 then { m with vP:=1,since:=e.y,target:=e.z }
 else if e.x=4 then { m with vP:=0,since:=e.y,target:=-1 }
 else if e.x=5 then { m with vP:=2,since:=e.y }
 else if e.x=6 then { m with vP:=0,since:=e.y,vS:=m.vG,vG:=m.target,target:=-1 }
 else if e.x=7 then { m with buf:=(m.buf.set (toC m).toNat (fR (dO m (toC m)) ((dO m (dU m)).headD 0))).set (dU m).toNat (dO m (dU m)).tail }
 else if e.x=8 then { m with path:=m.vG }
 else if e.x=9 then { m with since:=if m.vP=2 then m.since else e.y,vP:=3 }
 else m
def jT (m:Ms) (e:T3):Ms:=if e.x=10 then iA m e.z e.y else settle (eG m e)
def ms0 : Ms:=⟨0,0,0,0,0,0,0,0,0,[]⟩
def qw (n:Nw) (m:Ms) (e:T3):Int:=if e.y < m.at_ then 9 else et n (kW n m e.y) e
def fY (n:Nw) (m:Ms) (e:T3):Int:=if evE n e≠0 then evE n e else qw n m e
def qE (n:Nw) (m:Ms) (e:T3):Ms:=jT (kW n m e.y) e
def eM (n:Nw) (c:Int):Ms:=⟨0,0,0,c,-1,-1,c,0,0,n.cells.map fun _=>[]⟩
theorem jZ : ∀ (l:List Int) (n:Int),(fR l n).Perm (n :: l)
 |[],n=>.refl _
 | x :: l,n=>by
  rw[fR];split
  . exact ((jZ l n).cons x).trans (.swap n x l)
  . exact .refl _
theorem ka : ∀ (l:List Int) (n:Int),l.Pairwise (·<=·)->(fR l n).Pairwise (·<=·)
 |[],n,_=>by simp[fR]
 | x :: l,n,h=>by
  rw[yK]at h;rw[fR];split
  . rename_i hx;rw[yK];refine⟨fun y hy=>?_,ka l n h.2⟩;rcases zl.1 ((jZ l n).mem_iff.1 hy)with rfl | hy
    . omega
    . exact h.1 y hy
  . rename_i hx;rw[yK];refine⟨fun y hy=>?_,yK.2 h⟩;rcases zl.1 hy with rfl | hy
    . omega
    . have:=h.1 y hy;omega
theorem lE : ∀ (l acc:List Int),(l.foldl fR acc).Perm (acc++l)
 |[],acc=>by simp
 | x :: l,acc=>by
  rw[List.foldl_cons];refine (lE l _).trans (((jZ acc x).append_right l).trans ?_);simpa using (List.perm_middle (a:=x) (l₁:=acc) (l₂:=l)).symm
theorem kt : ∀ (l acc:List Int),acc.Pairwise (·<=·)->(l.foldl fR acc).Pairwise (·<=·)
 |[],acc,h=>h
 | x :: l,acc,h=>kt l _ (ka acc x h)
theorem kS (bs:List (List Int)):(mrg bs).Perm bs.flatten:=by simpa[mrg]using lE bs.flatten []
theorem nN (bs:List (List Int)):(mrg bs).Pairwise (·<=·):=kt _ [] .nil
theorem pL {l:List Int} (h:l.Pairwise (·<=·)) (hn:l.Nodup):l.Pairwise (· < ·):=by
 refine (h.and hn).imp ?_;intro a b ⟨h1,h2⟩;omega
theorem rz {l:List Int} (h:l.Pairwise (· < ·)):l.Nodup:=by
 refine h.imp ?_;intro a b h1 h2;omega
theorem pK {l:List Int} (h:l.Pairwise (· < ·)):l.Pairwise (·<=·):=by
 refine h.imp ?_;intro a b h1;omega
theorem fJ : ∀ (bs:List (List Int)) (i:Nat),i < bs.length->bs.flatten.Perm (bs.getD i []++(bs.set i []).flatten)
 |[],i,h=>by simp at h
 | b :: bs,0,_=>by simp
 | b :: bs,i+1,h=>by
  have ih:=fJ bs i (by simpa using h);simp only[List.flatten_cons,List.getD_cons_succ,List.set_cons_succ];refine (ih.append_left b).trans ?_;rw[<- ye,<- ye];exact List.perm_append_comm.append_right _
theorem jI (bs:List (List Int)) (i:Nat) (l:List Int) (h:i < bs.length):(bs.set i l).flatten.Perm (l++(bs.set i []).flatten):=by
 have:=fJ (bs.set i l) i (by simpa using h);rwa[List.set_set,zb,List.getElem?_set_self h,zN]at this
theorem vl (bs:List (List Int)):(bs.map fun _=>([]:List Int)).flatten=[]:=by
 induction bs with
 | nil=>rfl
 | cons b bs ih=>simpa using ih
theorem mK : ∀ bs:List (List Int),fc bs=(bs.flatten.length:Int)
 |[]=>by simp[fc]
 | b :: bs=>by rw[fc,mK bs,List.flatten_cons,zK];push_cast;rfl
theorem sj {l:List Int} {g x:Int}:x∈frm l g↔x∈l/\g<=x:=by simp[frm]
theorem fi (bs:List (List Int)) (i j:Nat) (l:List Int):(bs.set i l).getD j []=if i=j/\j < bs.length then l else bs.getD j []:=by
 rw[zb,zb,zJ];by_cases h:i=j
 . subst h;by_cases h2:i < bs.length
   . simp[h2]
   . simp[h2]
 . simp[h]
structure G0 (n:Nw) (m:Ms):Prop where
 len:m.buf.length=n.cells.length
 vP:0<=m.vP/\m.vP<=3
 at_:0<=m.at_/\m.at_<=1000000000
 since:0<=m.since/\m.since<=m.at_
 fresh:0<=m.fresh/\m.fresh<=1000000
 got:0<=m.got/\m.got<=m.fresh
 srv:isC n m.vG=true
 pth:isC n m.path=true
 tgt:m.target≠-1->isC n m.target=true
 src:m.vS≠-1->isC n m.vS=true
 f1:m.target≠-1->m.vP≠0
 f2:m.target=-1->m.vP≠1/\m.vP≠2
 f3:m.vS≠-1->m.vP≠1/\m.vP≠2/\m.target=-1
 f4:m.path≠m.vG->m.vS≠-1/\m.path=m.vS
 c1:m.target≠-1->nbr n m.target m.vG=true
 c2:m.vS≠-1->nbr n m.vS m.vG=true
 due:ed m=true->m.at_ < m.since+n.limit
 large:m.buf.flatten.length<=60
 rng:∀ x∈m.buf.flatten,0<=x/\x < m.fresh
 asc:∀ b∈m.buf,b.Pairwise (· < ·)
 nd:m.buf.flatten.Nodup
 opn:∀ i:Nat,m.buf.getD i []≠[]->(i:Int)=m.vG\/(i:Int)=m.vS\/(ed m=true/\(i:Int)=m.target)
 gap:∀ x,m.got<=x->x < m.fresh->x∈m.buf.flatten
structure dN (n:Nw) (m:Ms):Prop extends G0 n m where
 busy:m.vS≠-1->m.path=m.vG->dO m m.vS≠[]
structure NetOk (n:Nw):Prop where
 len:0 < n.cells.length/\n.cells.length<=6
 ne:∀ a b,nbr n a b=true->a≠b
 lim:1<=n.limit/\n.limit<=100000
theorem fG {n:Nw} {c:Int} (h:isC n c=true):0<=c/\c.toNat < n.cells.length/\(c.toNat:Int)=c:=by
 simp only[isC,qf]at h;omega
theorem G0.ix {n:Nw} {m:Ms} (g:G0 n m) {c:Int} (h:isC n c=true):c.toNat < m.buf.length:=by
 have:=fG h;have:=g.len;omega
theorem dN.begin {n:Nw} (hn:NetOk n) {c:Int} (hc:isC n c=true):dN n (eM n c):=by
 have hf:(eM n c).buf.flatten=[]:=by
  show (n.cells.map fun _=>([]:List Int)).flatten=[]
  induction n.cells with
  | nil=>rfl
  | cons b bs ih=>simpa using ih
 have hg:∀ i:Nat,(eM n c).buf.getD i []=[]:=fun i=>by
  show (n.cells.map fun _=>([]:List Int)).getD i []=[]
  rw[zb,zh];cases n.cells[i]? <;> rfl
 refine⟨⟨by simp[eM],by simp[eM],by simp[eM],by simp[eM],by simp[eM],by simp[eM],hc,hc,fun h=>absurd rfl h,fun h=>absurd rfl h,fun h=>absurd rfl h,fun _=>by simp[eM],fun h=>absurd rfl h,fun h=>absurd rfl h,fun h=>absurd rfl h,fun h=>absurd rfl h,fun h=>by simp[ed,eM]at h,?_,?_,?_,?_,?_,?_⟩,fun h=>absurd rfl h⟩
 . rw[hf];simp
 . rw[hf];simp
 . intro b hb;simp only[eM,zu]at hb;obtain⟨_,_,rfl⟩:=hb;exact .nil
 . rw[hf];simp
 . intro i h;exact absurd (hg i) h
 . intro x h1 h2;simp[eM]at h1 h2;omega
theorem dN.conn {n:Nw} {m:Ms} (g:dN n m) {c t u:Int} (hc:isC n c=true) (ht:0<=t/\t<=u) (hu:u<=1000000000):dN n { iA m c t with at_:=u }:=by
 have hN:(frm (mrg m.buf) m.got).Nodup:=((kS m.buf).nodup_iff.2 g.nd).filter _;have hS:(frm (mrg m.buf) m.got).Pairwise (· < ·):=pL ((nN m.buf).filter _) hN;have hM:∀ x,x∈frm (mrg m.buf) m.got↔x∈m.buf.flatten/\m.got<=x:=fun x=>by rw[sj,(kS m.buf).mem_iff]
 have hi:c.toNat < (m.buf.map fun _=>([]:List Int)).length:=by rw[zy];exact g.ix hc
 have hF:((m.buf.map fun _=>([]:List Int)).set c.toNat (frm (mrg m.buf) m.got)).flatten.Perm (frm (mrg m.buf) m.got):=by
  have h1:=jI (m.buf.map fun _=>([]:List Int)) c.toNat (frm (mrg m.buf) m.got) hi;have h2:((m.buf.map fun _=>([]:List Int)).set c.toNat [])=m.buf.map fun _=>([]:List Int):=by
   apply List.ext_getElem?;intro j;rw[zJ];split
   . rename_i e;subst e
     first | rw[qb hi] | skip
     rw[ze hi];simp
   . rfl
  rw[h2,vl,z4]at h1;exact h1
 have hL:(frm (mrg m.buf) m.got).length<=m.buf.flatten.length:=by
  rw[<- (kS m.buf).length_eq];exact List.length_filter_le _ _
 refine⟨⟨by simp[iA,g.len],by simp[iA],⟨by show (0:Int)<=u;omega,hu⟩,ht,g.fresh,g.got,hc,hc,fun h=>absurd rfl h,fun h=>absurd rfl h,fun h=>absurd rfl h,fun _=>by simp[iA],fun h=>absurd rfl h,fun h=>absurd rfl h,fun h=>absurd rfl h,fun h=>absurd rfl h,fun h=>by simp[ed,iA]at h,?_,?_,?_,?_,?_,?_⟩,fun h=>absurd rfl h⟩
 . show ((m.buf.map fun _=>([]:List Int)).set c.toNat (frm (mrg m.buf) m.got)).flatten.length<=60
   rw[hF.length_eq];have:=g.large;omega
 . intro x hx;exact g.rng x ((hM x).1 (hF.mem_iff.1 hx)).1
 . intro b hb;rcases List.mem_or_eq_of_mem_set hb with h | rfl
   . simp only[zu]at h;obtain⟨_,_,rfl⟩:=h;exact .nil
   . exact hS
 . exact hF.nodup_iff.2 hN
 . intro i h;refine .inl ?_;have h':((m.buf.map fun _=>([]:List Int)).set c.toNat (frm (mrg m.buf) m.got)).getD i []≠[]:=h;rw[fi]at h';split at h'
   . rename_i e;have:=fG hc;show (i:Int)=c
     omega
   . refine absurd ?_ h';rw[zb,zh];cases m.buf[i]? <;> rfl
 . intro x h1 h2;exact hF.mem_iff.2 ((hM x).2 ⟨g.gap x h1 h2,h1⟩)
theorem dN.pass {n:Nw} {m:Ms} (hn:NetOk n) (g:dN n m) {t:Int} (h1:m.at_<=t) (h2:t<=1000000000):dN n (kW n m t):=by
 unfold kW p8;by_cases h:jt n m t=true
 . rw[qb h];simp only[jt,zm,qf]at h;have hl:=hn.lim;have hs:=g.since;exact g.conn (by simp only[isC,qf];have:=hn.len;omega) (by omega) h2
 . rw[qa h];refine { g with at_:=⟨?_,h2⟩,since:=⟨g.since.1,?_⟩,due:=fun ha=>?_ }
   . have:=g.at_;show (0:Int)<=t;omega
   . have:=g.since;show m.since<=t;omega
   . show t < m.since+n.limit
     have ha':ed m=true:=ha;simp only[jt,ha',zY,qf]at h;omega
theorem G0.settle {n:Nw} {m:Ms} (g:G0 n m):dN n (settle m):=by
 unfold Go.Proofs.YtcbabnbiinkafaaGreatDoor.settle;by_cases h:fK m=true
 . rw[qb h];simp only[fK,zm,qf,List.isEmpty_iff]at h;obtain⟨⟨h1,h2⟩,h3⟩:=h;refine { toG0:={ g with src:=fun h=>absurd rfl h,f3:=fun h=>absurd rfl h,f4:=fun h=>absurd h2 h,c2:=fun h=>absurd rfl h,opn:=fun i hi=>?_ },busy:=fun h=>absurd rfl h };rcases g.opn i hi with q | q | q
   . exact .inl q
   . exfalso
     apply hi;have:m.vS.toNat=i:=by omega
     show m.buf.getD i []=[]
     rw[<- this];exact h3
   . exact .inr (.inr q)
 . rw[qa h];refine { toG0:=g,busy:=fun h1 h2 h3=>h ?_ };simp only[fK,zm,qf,List.isEmpty_iff];exact⟨⟨h1,h2⟩,h3⟩
theorem vF (n:Nw) (a b:Int):nbr n a b=nbr n b a:=by
 unfold nbr;rw[Int.min_comm,Int.max_comm]
theorem G0.mem_flat {n:Nw} {m:Ms} (g:G0 n m) {i:Nat} {x:Int} (h:x∈m.buf.getD i []):x∈m.buf.flatten:=by
 rcases yu i m.buf.length with hi | hi
 . exact (fJ m.buf i hi).mem_iff.2 (List.mem_append_left _ h)
 . rw[zb,List.getElem?_eq_none hi]at h;simp at h
theorem G0.asc_at {n:Nw} {m:Ms} (g:G0 n m) (i:Nat):(m.buf.getD i []).Pairwise (· < ·):=by
 rcases yu i m.buf.length with hi | hi
 . rw[zb,ze hi];exact g.asc _ (yy hi)
 . rw[zb,List.getElem?_eq_none hi];exact .nil
theorem lQ {bs:List (List Int)} {i:Nat} {l:List Int} (h:∀ b∈bs,b.Pairwise (· < ·)) (hl:l.Pairwise (· < ·)):∀ b∈bs.set i l,b.Pairwise (· < ·):=fun b hb=>by
 rcases List.mem_or_eq_of_mem_set hb with q | rfl
 . exact h b q
 . exact hl
theorem G0.act {n:Nw} {m:Ms} {e:T3} (hn:NetOk n) (g:G0 n m) (he:evE n e=0) (hat:e.y=m.at_) (hd:et n m e=0) (h10:e.x≠10):G0 n (eG m e):=by
 have hx:0<=e.x/\e.x<=11:=by
  rcases qh (0<=e.x/\e.x<=11)with h | h
  . exact h
  . rw[evE,qb (by simpa using h)]at he;cases he
 have hc:e.x=3->isC n e.z=true:=fun h=>by
  rw[evE,qa (by simpa using hx)]at he;split at he
  . cases he
  . rw[qb (by simp[iy,h])]at he;rcases qh (isC n e.z=true)with q | q
    . exact q
    . rw[qa q]at he;cases he
 have hs0:=fG g.srv;have hp0:=fG g.pth;have hlen:=g.len;have k:e.x=0\/e.x=1\/e.x=2\/e.x=3\/e.x=4\/e.x=5\/e.x=6\/e.x=7\/e.x=8\/e.x=9\/e.x=11:=by omega
 unfold eG;unfold et at hd;rcases k with k | k | k | k | k | k | k | k | k | k | k <;> rw[k]at hd ⊢ <;> simp only[Int.reduceEq,qj,qi]at hd ⊢
 ·
  have hlt:¬ (60<=fc m.buf\/1000000<=m.fresh):=fun h=>by rw[qb h]at hd;cases hd
  rw[mK]at hlt;have hi:=g.ix g.pth;have hF:(m.buf.set m.path.toNat (dO m m.path++[m.fresh])).flatten.Perm (m.fresh :: m.buf.flatten):=by
   refine (jI _ _ _ hi).trans ?_;refine List.Perm.trans ?_ ((fJ m.buf _ hi).symm.cons _);rw[ye];exact List.perm_middle
  have hnm:m.fresh∉m.buf.flatten:=fun h=>by have:=g.rng _ h;omega
  have hfr:=g.fresh;have hgt:=g.got;refine { g with len:=by simpa using hlen,fresh:=⟨?_,?_⟩,got:=⟨hgt.1,?_⟩,large:=?_,rng:=fun x hx=>?_,asc:=lQ g.asc ?_,nd:=hF.nodup_iff.2 (zI.2 ⟨hnm,g.nd⟩),opn:=fun i hi2=>?_,gap:=fun x h1 h2=>?_ }
  . show 0<=m.fresh+1;omega
  . show m.fresh+1<=1000000;omega
  . show m.got<=m.fresh+1;omega
  . rw[hF.length_eq,zQ];omega
  . show 0<=x/\x < m.fresh+1
    rcases zl.1 (hF.mem_iff.1 hx)with rfl | hx
    . omega
    . have:=g.rng x hx;omega
  . rw[List.pairwise_append];refine⟨g.asc_at _,by simp,fun a ha b hb=>?_⟩;simp only[zg]at hb;subst hb;exact (g.rng a (g.mem_flat ha)).2
  . have hi2':(m.buf.set m.path.toNat (dO m m.path++[m.fresh])).getD i []≠[]:=hi2;rw[fi]at hi2';split at hi2'
    . rename_i q;by_cases hps:m.path=m.vG
      . exact .inl (by show (i:Int)=m.vG;omega)
      . exact .inr (.inl (by have:=(g.f4 hps).2;show (i:Int)=m.vS;omega))
    . exact g.opn i hi2'
  . refine hF.mem_iff.2 (zl.2 ?_);have h2':x < m.fresh+1:=h2;rcases Int.lt_or_eq_of_le (Int.le_of_lt_add_one h2')with q | q
    . exact .inr (g.gap x h1 q)
    . exact .inl q
 ·
  split
  . rename_i hgot;have hne:dO m m.vG≠[]:=fun h=>by
     rw[h]at hd;simp at hd;split at hd <;> cases hd
    have hmem:m.got∈m.buf.flatten:=by
     refine g.mem_flat (i:=m.vG.toNat) ?_;show m.got∈dO m m.vG
     rw[<- hgot];cases hb:dO m m.vG with
     | nil=>exact absurd hb hne
     | cons a l=>simp
    have:=g.rng _ hmem;have hgt:=g.got;refine { g with got:=⟨?_,?_⟩,gap:=fun x h1 h2=>g.gap x ?_ h2 }
    . show 0<=m.got+1;omega
    . show m.got+1<=m.fresh;omega
    . have:m.got+1<=x:=h1;omega
  . exact g
 ·
  have hi:=g.ix g.srv;have hF:=jI m.buf m.vG.toNat (frm (dO m m.vG) m.got) hi;have hG:=fJ m.buf m.vG.toNat hi;have hsub:(frm (dO m m.vG) m.got++(m.buf.set m.vG.toNat []).flatten).Sublist (m.buf.getD m.vG.toNat []++(m.buf.set m.vG.toNat []).flatten):=List.filter_sublist.append_right _;refine { g with len:=by simpa using hlen,large:=?_,rng:=fun x hx=>?_,asc:=lQ g.asc ((g.asc_at _).filter _),nd:=hF.nodup_iff.2 (hsub.nodup (hG.nodup_iff.1 g.nd)),opn:=fun i hi2=>?_,gap:=fun x h1 h2=>?_ }
  . rw[hF.length_eq];have:=hsub.length_le;rw[<- hG.length_eq]at this;have:=g.large;omega
  . exact g.rng x (hG.mem_iff.2 (hsub.subset (hF.mem_iff.1 hx)))
  . have hi2':(m.buf.set m.vG.toNat (frm (dO m m.vG) m.got)).getD i []≠[]:=hi2;rw[fi]at hi2';split at hi2'
    . rename_i q;exact .inl (by show (i:Int)=m.vG;omega)
    . exact g.opn i hi2'
  . refine hF.mem_iff.2 ?_;have:=hG.mem_iff.1 (g.gap x h1 h2);rw[zW]at this ⊢;rcases this with q | q
    . exact .inl (sj.2 ⟨q,h1⟩)
    . exact .inr q
 ·
  have h0:m.vP=0:=by
   rcases qh (m.vP=0)with q | q
   . exact q
   . rw[qb q]at hd;cases hd
  rw[qa (by simp[h0])]at hd;have hs:m.vS=-1:=by
   rcases qh (m.vS=-1)with q | q
   . exact q
   . rw[qb q]at hd;cases hd
  rw[qa (by simp[hs])]at hd;have hnb:nbr n e.z m.vG=true:=by
   rcases qh (nbr n e.z m.vG=true)with q | q
   . exact q
   . rw[qa q]at hd;cases hd
  have ha:ed m=false:=by simp[ed,h0]
  have hat2:=g.at_;have hcz:=hc k;have hz:=fG hcz;refine { g with vP:=by simp,since:=⟨?_,?_⟩,tgt:=fun _=>hcz,f1:=fun _=>by simp,f2:=fun h=>?_,f3:=fun h=>absurd hs h,c1:=fun _=>hnb,due:=fun h=>by simp[ed]at h,opn:=fun i hi=>?_ }
  . show 0<=e.y;omega
  . show e.y<=m.at_;omega
  . exfalso
    have:e.z=-1:=h;omega
  . rcases g.opn i hi with q | q | q
    . exact .inl q
    . exact .inr (.inl q)
    . rw[ha]at q;cases q.1
 ·
  have h1:m.vP=1:=by
   rcases qh (m.vP=1)with q | q
   . exact q
   . rw[qb q]at hd;cases hd
  have ha:ed m=false:=by simp[ed,h1]
  have hat2:=g.at_;have hsn:m.vS=-1:=by
   rcases qh (m.vS=-1)with q | q
   . exact q
   . exact absurd h1 (g.f3 q).1
  refine { g with vP:=by simp,since:=⟨?_,?_⟩,tgt:=fun h=>absurd rfl h,f1:=fun h=>absurd rfl h,f2:=fun _=>by simp,f3:=fun h=>absurd hsn h,c1:=fun h=>absurd rfl h,due:=fun h=>by simp[ed]at h,opn:=fun i hi=>?_ }
  . show 0<=e.y;omega
  . show e.y<=m.at_;omega
  . rcases g.opn i hi with q | q | q
    . exact .inl q
    . exact .inr (.inl q)
    . rw[ha]at q;cases q.1
 ·
  have h1:m.vP=1:=by
   rcases qh (m.vP=1)with q | q
   . exact q
   . rw[qb q]at hd;cases hd
  have ha:ed m=false:=by simp[ed,h1]
  have hat2:=g.at_;have hl:=hn.lim;have hsn:m.vS=-1:=by
   rcases qh (m.vS=-1)with q | q
   . exact q
   . exact absurd h1 (g.f3 q).1
  have htn:m.target≠-1:=fun h=>(g.f2 h).1 h1
  refine { g with vP:=by simp,since:=⟨?_,?_⟩,f1:=fun h=>by simp,f2:=fun h=>absurd h htn,f3:=fun h=>absurd hsn h,due:=fun h=>?_,opn:=fun i hi=>?_ }
  . show 0<=e.y;omega
  . show e.y<=m.at_;omega
  . show m.at_ < e.y+n.limit;omega
  . rcases g.opn i hi with q | q | q
    . exact .inl q
    . exact .inr (.inl q)
    . rw[ha]at q;cases q.1
 ·
  have h2:m.vP=2:=by
   rcases qh (m.vP=2)with q | q
   . exact q
   . rw[qb q]at hd;cases hd
  have hat2:=g.at_;have htn:m.target≠-1:=fun h=>(g.f2 h).2 h2
  have hsn:m.vS=-1:=by
   rcases qh (m.vS=-1)with q | q
   . exact q
   . exact absurd h2 (g.f3 q).2.1
  have hps:m.path=m.vG:=by
   rcases qh (m.path=m.vG)with q | q
   . exact q
   . exact absurd hsn (g.f4 q).1
  have htc:=g.tgt htn;refine { g with vP:=by simp,since:=⟨?_,?_⟩,srv:=htc,tgt:=fun h=>absurd rfl h,src:=fun _=>g.srv,f1:=fun h=>absurd rfl h,f2:=fun _=>by simp,f3:=fun _=>by simp,f4:=fun _=>⟨?_,hps⟩,c1:=fun h=>absurd rfl h,c2:=fun _=>?_,due:=fun h=>by simp[ed]at h,opn:=fun i hi=>?_ }
  . show 0<=e.y;omega
  . show e.y<=m.at_;omega
  . show m.vG≠-1;omega
  . show nbr n m.vG m.target=true
    rw[vF];exact g.c1 htn
  . rcases g.opn i hi with q | q | q
    . exact .inr (.inl q)
    . omega
    . exact .inl q.2
 ·
  have hph:m.vP=2\/(m.vP≠2/\m.vP=0/\m.vS≠-1):=by
   rcases qh (m.vP=2)with q | q
   . exact .inl q
   . right;rcases qh (m.vP=0)with q0 | q0
     . rcases qh (m.vS=-1)with qs | qs
       . rw[qb ⟨q,.inr qs⟩]at hd;cases hd
       . exact⟨q,q0,qs⟩
     . rw[qb ⟨q,.inl q0⟩]at hd;cases hd
  have hdd:dO m (dU m)≠[]:=fun h=>by
   rw[qa (by rintro⟨q1,q2⟩;rcases hph with p | ⟨_,p1,p2⟩ <;> rcases q2 with q2 | q2 <;> first | exact q1 p | exact q2 p1 | exact p2 q2),qb h]at hd;cases hd
  have hft:isC n (dU m)=true/\isC n (toC m)=true/\dU m≠toC m/\(toC m=m.vG\/(ed m=true/\toC m=m.target)):=by
   rcases hph with p | ⟨p0,p1,p2⟩
   . have htn:m.target≠-1:=fun h=>(g.f2 h).2 p
     refine⟨by rw[dU,qb p];exact g.srv,by rw[toC,qb p];exact g.tgt htn,?_,.inr ⟨by simp[ed,p],by rw[toC,qb p]⟩⟩;rw[dU,toC,qb p,qb p];exact fun h=>hn.ne _ _ (g.c1 htn) h.symm
   . refine⟨by rw[dU,qa p0];exact g.src p2,by rw[toC,qa p0];exact g.srv,?_,.inl (by rw[toC,qa p0])⟩;rw[dU,toC,qa p0,qa p0];exact hn.ne _ _ (g.c2 p2)
  obtain⟨hf,ht,hne,hto⟩:=hft;have hfi:=g.ix hf;have hti:=g.ix ht;have hf0:=fG hf;have ht0:=fG ht;have hij:(toC m).toNat≠(dU m).toNat:=by omega
  obtain⟨x,B,hxB⟩:∃ x B,dO m (dU m)=x :: B:=by
   cases hb:dO m (dU m)with
   | nil=>exact absurd hb hdd
   | cons x B=>exact⟨x,B,rfl⟩
  rw[hxB];simp only[yc,List.tail_cons];have hasc:(x :: B).Pairwise (· < ·):=by rw[<- hxB];exact g.asc_at _
  have hA:=jZ (dO m (toC m)) x;have e1:=fJ m.buf _ hfi;have e2:=fJ (m.buf.set (dU m).toNat []) (toC m).toNat (by simpa using hti);rw[fi,qa (fun q=>hij q.1.symm)]at e2;have hO:m.buf.flatten.Perm (x :: (B++(dO m (toC m)++((m.buf.set (dU m).toNat []).set (toC m).toNat []).flatten))):=by
   refine e1.trans ?_;show ((dO m (dU m))++_).Perm _
   rw[hxB];exact (e2.append_left B).cons x
  have hF:((m.buf.set (toC m).toNat (fR (dO m (toC m)) x)).set (dU m).toNat B).flatten.Perm m.buf.flatten:=by
   refine (jI _ _ _ (by simpa using hfi)).trans ?_;rw[List.set_comm _ _ hij];refine ((jI (m.buf.set (dU m).toNat []) (toC m).toNat _ (by simpa using hti)).append_left B).trans ?_;refine ((hA.append_right _).append_left B).trans (List.Perm.trans ?_ hO.symm);exact List.perm_middle
  have hputS:(fR (dO m (toC m)) x).Pairwise (· < ·):=by
   refine pL (ka _ _ (pK (g.asc_at _))) (hA.nodup_iff.2 ?_);have h1:=hO.nodup_iff.1 g.nd;rw[zI]at h1;refine zI.2 ⟨fun q=>h1.1 (List.mem_append_right _ (List.mem_append_left _ q)),rz (g.asc_at _)⟩
  refine { g with len:=by simpa using hlen,large:=by rw[hF.length_eq];exact g.large,rng:=fun y hy=>g.rng y (hF.mem_iff.1 hy),asc:=lQ (lQ g.asc hputS) (yK.1 hasc).2,nd:=hF.nodup_iff.2 g.nd,opn:=fun i hi2=>?_,gap:=fun y h1 h2=>hF.mem_iff.2 (g.gap y h1 h2) };have hi2':((m.buf.set (toC m).toNat (fR (dO m (toC m)) x)).set (dU m).toNat B).getD i []≠[]:=hi2;rw[fi]at hi2';split at hi2'
  . rename_i q;refine g.opn i ?_;show m.buf.getD i []≠[]
    rw[<- q.1];exact fun h=>hdd h
  . rw[fi]at hi2';split at hi2'
    . rename_i q;have hit:(i:Int)=toC m:=by omega
      rcases hto with h | ⟨h1,h2⟩
      . exact .inl (hit.trans h)
      . exact .inr (.inr ⟨h1,hit.trans h2⟩)
    . exact g.opn i hi2'
 ·
  exact { g with pth:=g.srv,f4:=fun h=>absurd rfl h }
 ·
  have h3:m.vP≠3:=fun q=>by rw[qb q]at hd;cases hd
  have hat2:=g.at_;have hl:=hn.lim;have hsi:=g.since;refine { g with vP:=by simp,since:=?_,f1:=fun _=>by simp,f2:=fun _=>by simp,f3:=fun h=>⟨by simp,by simp,(g.f3 h).2.2⟩,due:=fun _=>?_,opn:=fun i hi=>?_ }
  . show 0<=(if m.vP=2 then m.since else e.y)/\(if m.vP=2 then m.since else e.y)<=m.at_
    split <;> omega
  . show m.at_ < (if m.vP=2 then m.since else e.y)+n.limit
    split
    . rename_i q;exact g.due (by simp[ed,q])
    . omega
  . rcases g.opn i hi with q | q | q
    . exact .inl q
    . exact .inr (.inl q)
    . exact .inr (.inr ⟨by simp[ed],q.2⟩)
 . exact g
theorem dN.done {n:Nw} {m:Ms} {e:T3} (hn:NetOk n) (g:dN n m) (he:evE n e=0) (hat:e.y=m.at_) (hd:et n m e=0):dN n (jT m e):=by
 unfold jT;by_cases h:e.x=10
 . rw[qb h];have hc:isC n e.z=true:=by
    rw[evE,qa (by simp[h])]at he;split at he
    . cases he
    . rw[qb (by simp[iy,h])]at he;rcases qh (isC n e.z=true)with q | q
      . exact q
      . rw[qa q]at he;cases he
   have:=g.at_;have q:=g.conn (t:=e.y) (u:=m.at_) hc (by omega) (by omega);exact q
 . rw[qa h];exact (g.toG0.act hn he hat hd h).settle
theorem dN.apply {n:Nw} {m:Ms} {e:T3} (hn:NetOk n) (g:dN n m) (h:fY n m e=0):dN n (qE n m e):=by
 unfold fY at h;have he:evE n e=0:=by
  rcases qh (evE n e=0)with q | q
  . exact q
  . rw[qb q]at h;exact h
 rw[qa (by simp[he]),qw]at h;have hy:¬ e.y < m.at_:=fun q=>by rw[qb q]at h;cases h
 rw[qa hy]at h;have ht:e.y<=1000000000:=by
  unfold evE at he;split at he
  . cases he
  . split at he
    . cases he
    . rename_i q;simp only[gc,Bool.not_eq_false,qf]at q;exact q.2
 exact (g.pass hn (by omega) ht).done hn he rfl h
structure Ph where
 m:Ms
 recv:List Int
 stays:List T3
 out:Int
 vL:Int
def jv (l:List T3) (t:Int):List T3:=l.set (l.length - 1) ⟨(l.getD (l.length - 1) ⟨0,0,0⟩).x,(l.getD (l.length - 1) ⟨0,0,0⟩).y,t⟩
def chg (l:List T3) (a b t:Int):List T3:=if a=b then l else jv l t++[⟨b,t,0⟩]
def kz (out vL t:Int):Int:=if out=-1 then vL else max vL (t - out)
def j1 (p:Ph) (c t:Int):Ph:={ p with m:={ p.m with vG:=c },stays:=chg p.stays p.m.vG c t }
def kA (p:Ph) (t:Int):Ph:={ p with out:=-1,vL:=kz p.out p.vL t }
def iC (p:Ph) (t:Int):Ph:={ p with out:=if p.out=-1 then t else p.out }
def kH (p:Ph) (c t:Int):Ph:={ m:=iA p.m c t,recv:=p.recv,stays:=chg p.stays p.m.vG c t,out:=-1,vL:=kz p.out p.vL t }
def eJ (n:Nw) (p:Ph) (t:Int):Ph:=if jt n p.m t=true then kH p 0 (p.m.since+n.limit)else p
def doP (p:Ph) (e:T3):Ph:=
 if e.x=10 then kH p e.z e.y
 else { m:=settle (eG p.m e),
        recv:=if e.x=1/\(dO p.m p.m.vG).headD 0=p.m.got then p.recv++[p.m.got]else p.recv,
        stays:=if e.x=6 then chg p.stays p.m.vG p.m.target e.y else p.stays,
        out:=if e.x=5\/e.x=9 then (if p.out=-1 then e.y else p.out)else if e.x=6 then -1 else p.out,
        vL:=if e.x=6 then kz p.out p.vL e.y else p.vL }
def atP (p:Ph) (t:Int):Ph:={ p with m:={ p.m with at_:=t } }
def km (n:Nw) (p:Ph) (e:T3):Ph:=atP (doP (eJ n p e.y) e) e.y
def gk (n:Nw) (c:Int):Ph:=⟨eM n c,[],[⟨c,0,0⟩],-1,0⟩
def finP (p:Ph):Ph:={ p with stays:=jv p.stays p.m.at_,out:=-1,vL:=kz p.out p.vL p.m.at_ }
theorem th (m:Ms) (t:Int):{ settle m with at_:=t }=settle { m with at_:=t }:=by
 unfold settle;have h:fK { m with at_:=t }=fK m:=rfl;rw[h];split <;> rfl
theorem at_act (m:Ms) (e:T3) (t:Int):{ eG m e with at_:=t }=eG { m with at_:=t } e:=by
 have key:∀ (p q:Prop) [Decidable p] (a b a' b':Ms),{ a with at_:=t }=a'->{ b with at_:=t }=b'->{ (if p then a else b)with at_:=t }=(if p then a' else b'):=by
  intro p q _ a b a' b' h1 h2;split
  . exact h1
  . exact h2
 unfold eG
 repeat' (first | refine key _ True _ _ _ _ ?_ ?_ | rfl)
theorem at_conn (m:Ms) (c u t:Int):{ iA m c u with at_:=t }=iA { m with at_:=t } c u:=rfl
theorem at_done (m:Ms) (e:T3) (t:Int):{ jT m e with at_:=t }=jT { m with at_:=t } e:=by
 unfold jT;split
 . exact at_conn m _ _ t
 . rw[th,at_act]
theorem doP_m (p:Ph) (e:T3):(doP p e).m=jT p.m e:=by
 unfold doP jT;split <;> rfl
theorem ou (n:Nw) (p:Ph) (t:Int):(eJ n p t).m=p8 n p.m t:=by
 unfold eJ p8;split <;> rfl
theorem qD (n:Nw) (p:Ph) (e:T3):(km n p e).m=qE n p.m e:=by
 show { (doP (eJ n p e.y) e).m with at_:=e.y }=_
 rw[doP_m,ou,at_done];rfl
theorem s5 {n:Nw} {m:Ms} {e:T3} (hn:NetOk n) (hlt:m.buf.length=n.cells.length) (hp:isC n m.path=true) (hs:isC n m.vG=true) (hsc:m.vS≠-1->isC n m.vS=true) (ht:m.target≠-1->isC n m.target=true)
 (hc1:m.target≠-1->nbr n m.target m.vG=true) (hc2:m.vS≠-1->nbr n m.vS m.vG=true) (hb:m.vS≠-1->m.path=m.vG->dO m m.vS≠[])
 (h6:e.x=6->m.target≠-1/\m.path=m.vG) (hk:0<=e.x/\e.x<=11) (h7:e.x≠7) (h8:e.x≠8):settle (eG m e)=eG m e:=by
 have hi:fK (eG m e)=false:=by
  have key:∀ m':Ms,(m'.vS≠-1->m'.path=m'.vG->dO m' m'.vS≠[])->fK m'=false:=fun m' h=>by
   cases hq:fK m' with
   | false=>rfl
   | true=>
    simp only[fK,zm,qf,List.isEmpty_iff]at hq;exact absurd hq.2 (h hq.1.1 hq.1.2)
  refine key _ ?_;have k:e.x=0\/e.x=1\/e.x=2\/e.x=3\/e.x=4\/e.x=5\/e.x=6\/e.x=9\/e.x=10\/e.x=11:=by omega
  have hsv:=fG hs;unfold eG;rcases k with k | k | k | k | k | k | k | k | k | k <;> rw[k] <;> simp only[Int.reduceEq,qj,qi]
  . intro h1 h2 h3;have h3':(m.buf.set m.path.toNat (dO m m.path++[m.fresh])).getD m.vS.toNat []=[]:=h3;rw[fi]at h3';split at h3'
    . simp at h3'
    . exact hb h1 h2 h3'
  . split
    . exact hb
    . exact hb
  . intro h1 h2 h3;have h3':(m.buf.set m.vG.toNat (frm (dO m m.vG) m.got)).getD m.vS.toNat []=[]:=h3;have hsr:=fG (hsc h1);have hne:=hn.ne _ _ (hc2 h1);rw[fi,qa (by omega)]at h3';exact hb h1 h2 h3'
  . exact hb
  . exact hb
  . exact hb
  . intro h1 h2;obtain⟨q1,q2⟩:=h6 k;have hne:=hn.ne _ _ (hc1 q1);have h2':m.path=m.target:=h2;omega
  . exact hb
  . exact hb
  . exact hb
 unfold Go.Proofs.YtcbabnbiinkafaaGreatDoor.settle;rw[qa (by rw[hi];simp)]
end Go.Proofs.YtcbabnbiinkafaaGreatDoor
end
section
open Go Go.Am Go.RowKit
open Go.Am.Dat (cells)
namespace Go.Proofs.YtcbabnbiinkafaaGreatDoor
theorem CEv.of_ev {P:Program} {E E':Env} {U U':Nat->Prop} {w w':World} {ch ch':Chs} {m:List (Nat×Sb)} {d:Nat} (he:Ev E U w ch m d E' U' w' ch') (hk:∀ p∈ch',100000<=p.1) (hd:d < 100000):CEv E U w ch E' U' w' ch':=
 ⟨he.os,he.tape,he.output,he.size,he.keep,he.rest,he.live,he.newU,fun k cs h _=>by
  rcases he.boxes k cs h with q | q
  . have:=hk _ h;simp only at this;omega
  . exact q,he.inv⟩
theorem fP {α:Type} [Inhabited α] (en:α->Value) (w:World) (blk off:Nat) (d:Array α) (b:Nat):(Sort.putRow en w blk off d).heap[b]? = if blk=b then (w.heap[b]?).map (Sort.onCells (Sort.putCells en off d))else w.heap[b]?:=by
 simp only[Sort.putRow,Sort.mapBlock,Array.getElem?_modify]
theorem io {U:Nat->Prop} {h:Array Obj} {y:KE0} {ty:TypeId} {xs:List Int} (hr:fa U h y 1 ty (xs.map Dat.cells)) (hn:y.nil=false):xs.length<=y.cap/\y.cap<=maxLen/\∃ arr,h[y.blk]? = some (.cells arr ty (0,0))/\y.off+y.cap<=arr.size/\∀ (j:Nat) x,xs[j]? = some x->arr[y.off+j]? = some (.int .i64 x):=by
 obtain⟨h1,h2,h3,h4⟩:=hr;rcases h4 with⟨g1,_⟩ | ⟨_,g2,g3,arr,g4,g5,g6⟩
 . rw[hn]at g1;cases g1
 refine⟨by simpa using g2,g3,arr,g4,by omega,fun j x hj=>?_⟩;have e1:(xs.map Dat.cells)[j]? = some [C.s (.int .i64 x)]:=by rw[zh,hj];rfl
 obtain⟨r1,_⟩:=g6 j _ 0 _ e1 rfl;have r2:=nS r1;have hjl:=(zi.1 hj).1;have e2:y.off+j*1+0=y.off+j:=by omega
 rw[e2]at r2;have hlt:y.off+j < arr.size:=by simp at g2;omega
 rw[zc,zj hlt]at r2;rw[zj hlt];simpa using r2
theorem pI {U:Nat->Prop} {w:World} {y:KE0} {ty:TypeId} {xs:List Int} (hr:fa U w.heap y 1 ty (xs.map Dat.cells)) (hn:y.nil=false):Sort.Holds (Value.int .i64) w y.blk y.off xs.toArray:=by
 obtain⟨_,_,arr,g4,_,g6⟩:=io hr hn;intro j hj;have hj':j < xs.length:=by simpa using hj
 have:=g6 j xs[j] (ze hj');refine⟨?_,?_⟩
 . simp only[World.cell?,g4];simpa[hj']using this
 . simp[World.frozen?,g4]
theorem ss {U:Nat->Prop} {h h1:Array Obj} {y:KE0} {ty:TypeId} {xs:List Int} {d:Array Int} {arr:Array Value} (hr:fa U h y 1 ty (xs.map Dat.cells)) (hn:y.nil=false) (ha:h[y.blk]? = some (.cells arr ty (0,0))) (h1b:h1[y.blk]? = some (.cells (Sort.putCells (Value.int .i64) y.off d arr) ty (0,0)))
 (zs:List Int) (hz:zs.length<=d.size) (hd:d.size<=xs.length) (hzd:∀ (j:Nat) x,zs[j]? = some x->d[j]? = some x):fa U h1 { y with len:=zs.length } 1 ty (zs.map Dat.cells):=by
 obtain⟨c1,c2,arr',c3,c4,_⟩:=io hr hn;rw[ha]at c3;cases c3;refine⟨by simp,hr.2.1,fun i e he=>?_,.inr ⟨hn,?_,c2,_,h1b,?_,fun i e j c he hj=>?_⟩⟩
 . rw[zh,za]at he;obtain⟨x,_,rfl⟩:=he;rfl
 . simp only[zy];omega
 . simp only[Sort.putCells,Array.size_mapIdx,yA];omega
 . rw[zh,za]at he;obtain⟨x,hx,rfl⟩:=he;have hil:=(zi.1 hx).1;cases j with
   | succ j=>simp[Dat.cells]at hj
   | zero=>
    have hc:c=.s (.int .i64 x):=by
     have:(Dat.cells x:List C)=[.s (.int .i64 x)]:=rfl;rw[this]at hj;simpa using hj.symm
    subst hc;have hlt:y.off+i < arr.size:=by omega
    have hv:(Sort.putCells (Value.int .i64) y.off d arr).getD (y.off+i*1+0) undef=.int .i64 x:=by
     have e:y.off+i*1+0=y.off+i:=by omega
     rw[e,zc];simp only[Sort.putCells,Array.getElem?_mapIdx,zj hlt,zU,zN];rw[qb ⟨by omega,by omega⟩,show y.off+i - y.off=i by omega];have:=hzd i x hx
     congr 1
     have hdl:i < d.size:=by omega
     rw[zj hdl]at this;rw[getElem!_pos d i hdl];simpa using this
    rw[hv];exact⟨.s _,rfl⟩
theorem args2 {aS:Array Value} {a b:Value} (hs:aS.size=2) (h0:aS.getD 0 undef=a) (h1:aS.getD 1 undef=b):aS=#[a,b]:=by
 refine Array.ext (by simpa using hs) (fun i h2 h3=>?_);simp at h3;rw[zc]at h0 h1
 match i,h2,h3 with
 | 0,h2,_=>rw[zj h2]at h0;exact h0
 | 1,h2,_=>rw[zj h2]at h1;exact h1
theorem args1 {aS:Array Value} {a:Value} (hs:aS.size=1) (h0:aS.getD 0 undef=a):aS=#[a]:=by
 refine Array.ext (by simpa using hs) (fun i h2 h3=>?_);simp at h3;rw[zc]at h0
 match i,h2,h3 with
 | 0,h2,_=>rw[zj h2]at h0;exact h0
def fD (xs:List Int):List Int:=xs.mergeSort fun x y=>decide (x<=y)
end Go.Proofs.YtcbabnbiinkafaaGreatDoor
end
section
open Go Go.Am Go.RowKit Go.Lib Go.Proofs
open Go.Am.Dat (cells)
namespace Go.Proofs.YtcbabnbiinkafaaGreatDoor
theorem clo183 (W:World) (x got:Int) (b3 bp:Nat) (h1:W.cell? ⟨b3,0,none⟩=some (.pointer (some ⟨bp,0,none⟩))) (h2:W.cell? ⟨bp,8,none⟩=some (.int .i64 got)) :
 Calls Tryz.prog 183 #[.int .i64 x,.pointer (some ⟨b3,0,none⟩)] W fun e w'=>e=.returned (.bool (decide (x < got)))/\w'=W:=by
 go_enter Tryz.func183,Tryz.ntmps183
 go_wp2
 go_ret
 exact⟨rfl,rfl⟩
theorem clo280 (W:World) (x got:Int) (b3 bp:Nat) (h1:W.cell? ⟨b3,0,none⟩=some (.pointer (some ⟨bp,0,none⟩))) (h2:W.cell? ⟨bp,8,none⟩=some (.int .i64 got)) :
 Calls Tryz.prog 280 #[.int .i64 x,.pointer (some ⟨b3,0,none⟩)] W fun e w'=>e=.returned (.bool (decide (x < got)))/\w'=W:=by
 go_enter Tryz.func280,Tryz.ntmps280
 go_wp2
 go_ret
 exact⟨rfl,rfl⟩
theorem idx_nil (v:Value) (w:World):Calls Tryz.prog 202 #[.slice none 0 0,v] w fun e w'=>e=.returned (.int .i64 (-1))/\w'=w:=by
 go_enter Tryz.func202,Tryz.ntmps202
 go_wp2
 refine wp_loop_rounds 1 ?_;rw[rounds_succ]
 go_wp2
 go_ret
 exact⟨rfl,rfl⟩
theorem del_nil (v:Value) (w:World):Calls Tryz.prog 182 #[.slice none 0 0,v] w fun e w'=>e=.returned (.slice none 0 0)/\w'=w:=by
 have e202:∀ args w,(callFunc 202 args).run Tryz.prog w=.ok (.enter 202 args) w:=enters_of Tryz.func202 (by kernel_rfl) rfl
 go_enter Tryz.func182,Tryz.ntmps182
 go_wp2_with (go_at_fn 202;refine (idx_nil _ _).mono ?_;rintro e w' ⟨rfl,rfl⟩)
 go_ret
 exact⟨rfl,rfl⟩
def pU (g:Nat):Prop:=(∀ args w,(callFunc g args).run Tryz.prog w=.ok (.enter g args) w)/\∀ (W:World) (x got:Int) (b3 bp:Nat),W.cell? ⟨b3,0,none⟩=some (.pointer (some ⟨bp,0,none⟩))->W.cell? ⟨bp,8,none⟩=some (.int .i64 got) ->
 Calls Tryz.prog g #[.int .i64 x,.pointer (some ⟨b3,0,none⟩)] W fun e w'=>e=.returned (.bool (decide (x < got)))/\w'=W
theorem uZ : pU 183:=⟨enters_of Tryz.func183 (by kernel_rfl) rfl,fun W x got b3 bp h1 h2=>clo183 W x got b3 bp h1 h2⟩
theorem u0 : pU 280:=⟨enters_of Tryz.func280 (by kernel_rfl) rfl,fun W x got b3 bp h1 h2=>clo280 W x got b3 bp h1 h2⟩
theorem sM (xs:List Int) (got:Int):(xs.filter fun x=>!(decide (x < got)))=frm xs got:=by
 unfold frm
 congr 1
 funext x
 by_cases h:x < got
 . have:¬ got<=x:=by omega
   simp[h,this]
 . have:got<=x:=by omega
   simp[h,this]
theorem oneI : OneCell (Value.int .i64):=fun x=>rfl
theorem pE : ∀ (l:List Int) (x:Int),l.Pairwise (·<=·)->fR l x=l.take (l.countP (· < x))++x :: l.drop (l.countP (· < x))
 |[],x,_=>by simp[fR]
 | y :: l,x,h=>by
  rw[yK]at h;rw[fR];by_cases hx:y < x
  . rw[qb hx,List.countP_cons_of_pos (by simpa using hx),yD,yw,pE l x h.2,yq]
  . have h0:(y :: l).countP (· < x)=0:=by
     rw[yk];intro z hz;rcases zl.1 hz with rfl | hz
     . simpa using hx
     . have:=h.1 z hz;simp;omega
    rw[qa hx,h0];simp
def kG (l:List Int) (x:Int):Nat:=l.countP (· < x)
theorem cntL_le (l:List Int) (x:Int):kG l x<=l.length:=List.countP_le_length
theorem vu {E:Env} {U:Nat->Prop} {w:World} {xs:List Int} {v:Value} (h:Rep E U w.heap (enc xs) v) (hU:∀ b,U b->b < w.heap.size) :
 (xs=[]/\∃ a c,v=.slice a 0 c)\/∃ b off cap,v=.slice (some ⟨b,off,none⟩) xs.length cap/\xs.length<=cap/\cap<=maxLen/\b < w.heap.size/\∀ (j:Nat) x,xs[j]? = some x->w.cell? ⟨b,off+j,none⟩=some (.int .i64 x):=by
 have h:Rep E U w.heap (.sl 1 (xs.map Dat.cells)) v:=h;generalize he:xs.map Dat.cells=es at h;cases h with
 | d hd=>
  cases hd with
  | sl0 _ a cap hc=>
   refine .inl ⟨by simpa using he,a,cap,rfl⟩
  | sl _ b off cap _ arr ty fz vf hUb hb hcap hmax hsz hv hr=>
   have hl:es.length=xs.length:=by rw[<- he,zy]
   refine .inr ⟨b,off,cap,by rw[hl],by omega,hmax,hU b hUb,fun j x hj=>?_⟩;have h1:es[j]? = some [C.s (.int .i64 x)]:=by rw[<- he,zh,hj];rfl
   obtain⟨h2,_⟩:=hv j _ 0 _ h1 rfl;have h3:=hr j _ 0 _ h1 rfl;have h4:vf j 0=.int .i64 x:=by generalize vf j 0=q at h3;cases h3;rfl
   rw[h4]at h2;have e:off+j*1+0=off+j:=by omega
   rw[e]at h2;simp only[World.cell?,hb];simpa using h2
theorem oc (xs:List Int) (x:Int) (hs:xs.Pairwise (·<=·)) (h:xs.length<=1000000):FC Tryz.prog 282 [enc xs,enc x] [] (.tup [.s (.int .i64 (kG xs x:Nat)),enc (xs.contains x)]) []:=by
 refine⟨⟨_,Tryz.func282,by kernel_rfl,by kernel_rfl⟩,fun E U aS w hg ha hi=>?_⟩;obtain⟨hsz,hr⟩:=ha;have h0:=hr 0 _ rfl;have h1:=dK (hr 1 _ rfl);have fin:∀ (w':World) (n:Nat) (b:Bool),n=kG xs x->b=xs.contains x->RowKit.Below w.heap.size w w'->∃ v E' U',Ending.returned (.tuple #[.int .i64 (n:Int),.bool b])=.returned v/\Rep E' U' w'.heap (.tup [.s (.int .i64 (kG xs x:Nat)),enc (xs.contains x)]) v/\CEv E U w [] E' U' w' []:=by
  rintro w' n b rfl rfl hb
  refine⟨_,E,U,rfl,.tup _ _ rfl (fun j c hj=>?_),CEv.below hi hb⟩
  match j,hj with
  | 0,hj=>cases hj;exact .d (.s _)
  | 1,hj=>cases hj;exact .d (.s _)
 rcases vu h0 hi.lt with⟨rfl,a,c,e⟩ | ⟨b,off,cap,e,hcap,hmx,hb,hcell⟩
 . rw[args2 hsz e h1];refine (Any.slices_BinarySearch_int_empty Tryz.laysNm225 a c x w).mono ?_
   rintro e w' ⟨rfl,rfl⟩
   exact fin w' 0 false rfl rfl (.refl _ _)
 . rw[args2 hsz e h1];refine (Any.slices_BinarySearch_int Tryz.laysNm225 b off xs.length cap xs x w (zw _) (by omega) (fun j hj=>?_) (by rw[yo];exact hs)).mono ?_
   . rw[zb,ze hj];exact hcell j _ (ze hj)
   . rintro e w' ⟨rfl,q,rfl⟩
     rw[yo];exact fin _ _ _ rfl rfl ⟨rfl,rfl,rfl,zw _,fun b _=>rfl⟩
theorem eY (b:Nat):∀ (vs:List Value) (o:Nat) (w:World) (arr:Array Value) (ty:TypeId) (fz:Nat×Nat),w.heap[b]? = some (.cells arr ty fz) ->
 ∃ arr',(w.setCells b o vs).heap[b]? = some (.cells arr' ty fz)/\arr'.size=arr.size/\∀ k:Nat,k < arr.size->arr'[k]? = if o<=k/\k < o+vs.length then vs[k - o]? else arr[k]?
 |[],o,w,arr,ty,fz,h=>⟨arr,h,rfl,fun k hk=>by rw[qa (by rintro⟨h1,h2⟩;simp only[yh]at h2;omega)]⟩
 | v :: r,o,w,arr,ty,fz,h=>by
  have h1:(w.setCell ⟨b,o,none⟩ v).heap[b]? = some (.cells (arr.setIfInBounds o v) ty fz):=by
   rw[Sort.setCell_eq];simp only[Sort.mapBlock,Array.getElem?_modify,qj,h];rfl
  obtain⟨arr',a1,a2,a3⟩:=eY b r (o+1) _ _ ty fz h1;refine⟨arr',a1,by rw[a2];simp,fun k hk=>?_⟩;rw[a3 k (by simpa using hk)];by_cases hk0:k=o
  . subst hk0;rw[qa (by omega),qb ⟨zw _,by simp⟩];simp[hk]
  . by_cases hk1:o+1<=k/\k < o+1+r.length
    . rw[qb hk1,qb ⟨by omega,by simp;omega⟩];have:k - o=k - (o+1)+1:=by omega
      rw[this,yp]
    . rw[qa hk1,qa (by simp;omega)];rw[yl,qa (by omega)]
theorem fA (b:Nat) (vs:List Value) (o:Nat) (w:World) (i:Nat) (h:i≠b):(w.setCells b o vs).heap[i]? = w.heap[i]?:=by
 induction vs generalizing o w with
 | nil=>rfl
 | cons v r ih=>
  rw[World.setCells,ih,Sort.setCell_eq];simp only[Sort.mapBlock,Array.getElem?_modify];rw[qa (fun e=>h e.symm)]
theorem gZ (b:Nat) (vs:List Value) (o:Nat) (w:World):(w.setCells b o vs).heap.size=w.heap.size:=by
 induction vs generalizing o w with
 | nil=>rfl
 | cons v r ih=>rw[World.setCells,ih,Sort.setCell_eq];simp[Sort.mapBlock]
theorem gC (b:Nat) (vs:List Value) (o:Nat) (w:World):(w.setCells b o vs).os=w.os/\(w.setCells b o vs).tape=w.tape/\(w.setCells b o vs).output=w.output:=by
 induction vs generalizing o w with
 | nil=>exact⟨rfl,rfl,rfl⟩
 | cons v r ih=>
  rw[World.setCells];exact ih _ _
theorem vY {P:Program} [Glob P] {E:Env} {U:Nat->Prop} {w w1:World} {k:Nat} {ty:TypeId} {xs zs:List Int} {rest:Chs} (hi:Inv E U w.heap ((k,.row 1 ty (xs.map Dat.cells)) :: rest)) (hk:∀ p∈((k,Ch.row 1 ty (xs.map Dat.cells)) :: rest),100000<=p.1) (hsub:ae [(k,.c .any)] rest=rest)
 (y:KE0) (hos:w1.os=w.os) (htp:w1.tape=w.tape) (hou:w1.output=w.output) (hsz:w.heap.size<=w1.heap.size)
 (hold:∀ b,b < w.heap.size->((E k).nil=false->b≠(E k).blk)->w1.heap[b]? = w.heap[b]?) (hy:y.nil=false) (hyb:(w.heap.size<=y.blk/\y.blk < w1.heap.size)\/((E k).nil=false/\y.blk=(E k).blk)) (hys:y.sz=1) (hyl:y.len=zs.length) (hyc:zs.length<=y.cap) (hcm:y.cap<=maxLen)
 {arr:Array Value} (ha:w1.heap[y.blk]? = some (.cells arr ty (0,0))) (hoc:y.off+y.cap<=arr.size) (hzd:∀ (j:Nat) x,zs[j]? = some x->arr[y.off+j]? = some (.int .i64 x)) :
 ∃ E',(E' k).toKE0=y/\CEv E U w ((k,.row 1 ty (xs.map Dat.cells)) :: rest) E' U w1 ((k,.row 1 ty (zs.map Dat.cells)) :: rest):=by
 have hl:lk ((k,Ch.row 1 ty (xs.map Dat.cells)) :: rest) k=some (.row 1 ty (xs.map Dat.cells)):=by simp[lk]
 obtain⟨hrow,hfp⟩:=hi.ok k _ (dH hl)
 have he:=Ev.rekey (w1:=w1) (c1:=.row 1 ty (zs.map Dat.cells)) (x:=ke0 y) hi hl hos htp hou hsz (fun b hb hnb=>hold b hb (fun hn e=>hnb ((hfp.fp _).2 (.inl ⟨hn,e.symm⟩)))) (fun b hb=>by
  have hb2:y.blk=b:=hb.2;rcases hyb with q | ⟨q1,q2⟩
  . exact .inl (by omega)
  . exact .inr ((hfp.fp _).2 (.inl ⟨q1,by rw[<- q2];exact hb2⟩))) (fun cs h=>by cases h) (fun hkeep=>by
  simp only[dM,updE_same];refine⟨⟨by rw[zy];exact hyl,hys,fun i e h=>?_,.inr ⟨hy,by rw[zy];exact hyc,hcm,arr,ha,by rw[yA];exact hoc,fun i e j c h hj=>?_⟩⟩,gn _⟩
  . rw[zh,za]at h;obtain⟨x,_,rfl⟩:=h;rfl
  . rw[zh,za]at h;obtain⟨x,hx,rfl⟩:=h;cases j with
    | succ j=>simp[Dat.cells]at hj
    | zero=>
     have hc:c=.s (.int .i64 x):=by
      have:(Dat.cells x:List C)=[.s (.int .i64 x)]:=rfl;rw[this]at hj;simpa using hj.symm
     subst hc;have hv:arr.getD ((ke0 y).off+i*1+0) undef=.int .i64 x:=by
      have e:(ke0 y).off+i*1+0=y.off+i:=by show y.off+i*1+0=_;omega
      rw[e,zc,hzd i x hx];rfl
     rw[hv]
     exact⟨.s _,rfl⟩) 0
 refine⟨_,?_,CEv.of_ev (P:=P) (d:=0) (by
  have e1:am (ae [(k,.c .any)] ((k,Ch.row 1 ty (xs.map Dat.cells)) :: rest)) k (.row 1 ty (zs.map Dat.cells))=(k,.row 1 ty (zs.map Dat.cells)) :: rest:=by
   simp only[ae,am,qj,hsub]
  rw[e1]at he
  exact he) (fun p hp=>?_) (by decide)⟩
 . rw[updE_same];rfl
 . rcases zl.1 hp with rfl | hp
   . exact hk (k,Ch.row 1 ty (xs.map Dat.cells)) zq
   . exact hk p (zo _ hp)
theorem args3 {aS:Array Value} {a b c:Value} (hs:aS.size=3) (h0:aS.getD 0 undef=a) (h1:aS.getD 1 undef=b) (h2:aS.getD 2 undef=c):aS=#[a,b,c]:=by
 refine Array.ext (by simpa using hs) (fun i h3 h4=>?_);simp at h4;rw[zc]at h0 h1 h2
 match i,h3,h4 with
 | 0,h3,_=>rw[zj h3]at h0;exact h0
 | 1,h3,_=>rw[zj h3]at h1;exact h1
 | 2,h3,_=>rw[zj h3]at h2;exact h2
def jn (xs:List Int) (i:Nat) (x:Int):List Int:=xs.take i++x :: xs.drop i
theorem vt (xs:List Int) (i:Nat) (x:Int) (hi:i<=xs.length):(jn xs i x).length=xs.length+1:=by
 simp[jn];omega
theorem kM (xs:List Int) (i:Nat) (x:Int) (hi:i<=xs.length) (j:Nat):(jn xs i x)[j]? = if j < i then xs[j]? else if j=i then some x else xs[j - 1]?:=by
 unfold jn;rw[zS];have ht:(xs.take i).length=i:=by simp;omega
 rw[ht];by_cases h:j < i
 . rw[qb h,qb h,ya,qb h]
 . rw[qa h,qa h];by_cases h2:j=i
   . subst h2;simp
   . rw[qa h2];obtain⟨q,hq⟩:∃ q,j - i=q+1:=⟨j - i - 1,by omega⟩;rw[hq,yp,zO]
     congr 1;omega
theorem uN (xs:List Int) (i:Nat) (x:Int) (hil:i<=xs.length) (h:xs.length<=1000000) :
 FC Tryz.prog 283 [.own 100000,.s (.int .i64 (i:Int)),.own 100001] [(100000,.row 1 3 (xs.map Dat.cells)),(100001,.row 1 3 [[.s (.int .i64 x)]])] (.own 100000) [(100000,.row 1 3 ((jn xs i x).map Dat.cells)),(100001,.row 1 3 [[.s (.int .i64 x)]])]:=by
 refine⟨⟨_,Tryz.func283,by kernel_rfl,by kernel_rfl⟩,fun E U aS w hgl ha hi=>?_⟩;obtain⟨hs,hr⟩:=ha;have a0:=eS (hr 0 _ rfl);have a1:=dK (hr 1 _ rfl);have a2:=eS (hr 2 _ rfl);have hkk:∀ p∈[((100000:Nat),Ch.row 1 3 (xs.map Dat.cells)),(100001,.row 1 3 [[.s (.int .i64 x)]])],100000<=p.1:=fun p hp=>by
  simp at hp;rcases hp with rfl | rfl <;> simp
 obtain⟨hrow,hfp⟩:=hi.ok 100000 _ zq;obtain⟨hrow1,hfp1⟩:=hi.ok 100001 (.row 1 3 [[.s (.int .i64 x)]]) (by simp);have hn1:(E 100001).nil=false:=by
  rcases hrow1.2.2.2 with⟨_,g⟩ | ⟨g,_⟩
  . cases g
  . exact g
 have hl1:(E 100001).len=1:=hrow1.1;have hrow1':fa U w.heap (E 100001).toKE0 1 3 (([x]:List Int).map Dat.cells):=hrow1;obtain⟨u1,u2,arr1,u3,u4,u5⟩:=io hrow1' hn1;have hv0:∀ (j:Nat) v,[Value.int .i64 x][j]? = some v->w.cell? ⟨(E 100001).blk,(E 100001).off+j,none⟩=some v:=fun j v hj=>by
  cases j with
  | zero=>
   simp at hj;subst hj;have:=u5 0 x rfl;simp only[World.cell?,u3];simpa using this
  | succ j=>simp at hj
 have h1v:∀ v∈[Value.int .i64 x],v.oneCell'=true:=fun v hv=>by simp at hv;subst hv;rfl
 have h1c:∀ v∈xs.map (Value.int .i64),v.oneCell'=true:=fun v hv=>by
  obtain⟨y,_,rfl⟩:=zu.1 hv;rfl
 rw[args3 hs a0 a1 a2];have hl:=hrow.1;simp only[zy]at hl;have hmx:maxLen=9223372036854775807:=by decide
 have o1:(E 100001).fp (E 100001).blk:=(hfp1.fp _).2 (.inl ⟨hn1,rfl⟩);have own1:slV (E 100001).toKE0=.slice (some ⟨(E 100001).blk,(E 100001).off,none⟩) 1 (E 100001).cap:=by simp[slV,hn1,hl1]
 rw[own1];have cellx:∀ (j:Nat) v,(xs.map (Value.int .i64))[j]? = some v->∃ y,xs[j]? = some y/\v=.int .i64 y:=fun j v hj=>by
  rw[zh,za]at hj;obtain⟨y,h1,rfl⟩:=hj;exact⟨y,h1,rfl⟩
 have fin:∀ (y:KE0) (w1:World) (arr:Array Value),w1.os=w.os->w1.tape=w.tape->w1.output=w.output->w.heap.size<=w1.heap.size ->
  (∀ b,b < w.heap.size->((E 100000).nil=false->b≠(E 100000).blk)->w1.heap[b]? = w.heap[b]?)->y.nil=false->((w.heap.size<=y.blk/\y.blk < w1.heap.size)\/((E 100000).nil=false/\y.blk=(E 100000).blk))->y.sz=1->y.len=xs.length+1->xs.length+1<=y.cap->y.cap<=maxLen ->
  w1.heap[y.blk]? = some (.cells arr 3 (0,0))->y.off+y.cap<=arr.size->(∀ j:Nat,j < xs.length+1->arr[y.off+j]? = ((jn xs i x)[j]?).map (Value.int .i64)) ->
  ∃ v E' U',Ending.returned (.slice (some ⟨y.blk,y.off,none⟩) y.len y.cap)=.returned v/\Rep E' U' w1.heap (.own 100000) v/\CEv E U w [(100000,.row 1 3 (xs.map Dat.cells)),(100001,.row 1 3 [[.s (.int .i64 x)]])] E' U' w1 [(100000,.row 1 3 ((jn xs i x).map Dat.cells)),(100001,.row 1 3 [[.s (.int .i64 x)]])]:=by
  intro y w1 arr q1 q2 q3 q4 q5 q6 q7 q8 q9 q10 q11 q12 q13 q14;have hil2:=vt xs i x hil
  obtain⟨E',e1,e2⟩:=vY (P:=Tryz.prog) (zs:=jn xs i x) hi hkk rfl y q1 q2 q3 q4 q5 q6 q7 q8 (by rw[hil2];exact q9) (by rw[hil2];exact q10) q11 q12 q13 (fun j z hj=>by
   have hjl:=(zi.1 hj).1
   rw[q14 j (by omega),hj];rfl)
  refine⟨_,E',U,rfl,?_,e2⟩;have:=fun h=>Rep.own (E:=E') (U:=U) (h:=h) 100000
  simp only[slV,e1,q6,zr,qi]at this;exact this _
 have hrn:(Tryz.prog.info? 3).map (fun i=>(i.zero,i.size,i.bytes))=some (some (.int .i64 0),1,8):=by kernel_rfl
 cases hn:(E 100000).nil with
 | true=>
  have hx:xs=[]:=by
   rcases hrow.2.2.2 with⟨_,g⟩ | ⟨g,_⟩
   . simpa using g
   . rw[hn]at g;cases g
  subst hx;have hi0:i=0:=by simpa using hil
  subst hi0;simp only[slV,hn,qj];have hc:=Any2.slices_Insert_int_end_grow Tryz.laysNm221 none 0 0 (E 100001).blk (E 100001).off 1 (E 100001).cap [] [Value.int .i64 x] w (by decide) (by decide) (by decide) (by decide) rfl rfl (fun _=>rfl) (fun a h=>by cases h) hv0 h1v;refine Calls.mono hc ?_
  rintro e w' ⟨rfl,rfl⟩
  have hge:1<=grownCap w (0+1) 0 3:=grownCap_ge w _ _ _;have hle:grownCap w (0+1) 0 3<=maxLen:=grownCap_le_maxLen w _ 0 3 (by rw[hmx];decide);have e0:Tryz.laysNm221_ren.t 3=3:=rfl;simp only[e0];generalize grownCap w (0+1) 0 3=G at *;refine fin ⟨w.heap.size,0,G,1,1,false⟩ (w.drew.alloc (.cells (([]++[Value.int .i64 x]).toArray++Builtin.zeroCells (Value.int .i64 0).cells (G - (0+1))) 3)) _ rfl rfl rfl (by simp) (fun b hb _=>RowKit.Below.heap_alloc w.drew _ b hb) rfl (.inl ⟨zw _,by simp⟩) rfl rfl hge hle (Go.heap_alloc_new w.drew _) ?_ (fun j hj=>?_)
  . simp[size_zeroCells,Value.cells];omega
  . have:j=0:=by simpa using hj
    subst this;simp only[jn,List.take_nil,List.drop_nil,yb,zz];rw[zX (by simp)];simp
 | false=>
  obtain⟨c1,c2,arr,c3,c4,c5⟩:=io hrow hn;have o0:(E 100000).fp (E 100000).blk:=(hfp.fp _).2 (.inl ⟨hn,rfl⟩);have hne:(E 100001).blk≠(E 100000).blk:=fun e=>hi.sep 100001 (.row 1 3 [[.s (.int .i64 x)]]) 100000 _ (by simp) zq (by decide) _ o1 (e ▸ o0)
  simp only[slV,hn,zr,qi,hl];have hcs:∀ (j:Nat) v,(xs.map (Value.int .i64))[j]? = some v->w.cell? ⟨(E 100000).blk,(E 100000).off+j,none⟩=some v:=fun j v hj=>by
   obtain⟨y,h1,rfl⟩:=cellx j v hj;have:=c5 j y h1;simp only[World.cell?,c3];simpa using this
  have hsp:∀ j,j < (E 100000).cap->(w.cell? ⟨(E 100000).blk,(E 100000).off+j,none⟩).isSome=true:=fun j hj=>by
   have:(E 100000).off+j < arr.size:=by omega
   simp[World.cell?,c3,this]
  have hfz:∀ j,w.frozen? ⟨(E 100000).blk,(E 100000).off+j,none⟩=false:=fun j=>by simp[World.frozen?,c3]
  have hblk:(E 100000).blk < w.heap.size:=lt_of_getElem? c3;by_cases hin:i=xs.length
  . subst hin;by_cases hroom:xs.length+1<=(E 100000).cap
    . refine (Any2.slices_Insert_int_end_room Tryz.laysNm221 (E 100000).blk (E 100000).off xs.length (E 100000).cap (E 100001).blk (E 100001).off 1 (E 100001).cap [Value.int .i64 x] w (by decide) hroom (by rw[<- hmx];exact c2) rfl (fun j hj=>?_) (fun j hj=>?_) hv0 h1v).mono ?_
      . have:=hsp (xs.length+j) (by omega);rwa[<- yG]at this
      . have:=hfz (xs.length+j);rwa[<- yG]at this
      rintro e w' ⟨rfl,rfl⟩
      obtain⟨arr',a1,a2,a3⟩:=eY (E 100000).blk [Value.int .i64 x] ((E 100000).off+xs.length) w arr 3 (0,0) c3;obtain⟨e1,e2,e3⟩:=gC (E 100000).blk [Value.int .i64 x] ((E 100000).off+xs.length) w;refine fin ⟨(E 100000).blk,(E 100000).off,(E 100000).cap,xs.length+1,1,false⟩ _ arr' e1 e2 e3 (by rw[gZ];exact zw _) (fun b hb hb2=>fA _ _ _ _ _ (hb2 hn)) rfl (.inr ⟨hn,rfl⟩) rfl rfl hroom c2 a1 (by rw[a2];exact c4) (fun j hj=>?_);rw[a3 _ (by show (E 100000).off+j < arr.size;omega),kM _ _ _ (zw _)];show (if (E 100000).off+xs.length<=(E 100000).off+j/\_ then _ else _)=_
      by_cases hj2:j < xs.length
      . rw[qa (by omega),qb hj2,ze hj2];exact c5 j _ (ze hj2)
      . have hje:j=xs.length:=by omega
        subst hje;rw[qb ⟨zw _,by simp⟩,qa (by omega),qb rfl];simp
    . have hc:=Any2.slices_Insert_int_end_grow Tryz.laysNm221 (some ⟨(E 100000).blk,(E 100000).off,none⟩) xs.length (E 100000).cap (E 100001).blk (E 100001).off 1 (E 100001).cap (xs.map (Value.int .i64)) [Value.int .i64 x] w (by decide) c1 (by omega) (by omega) (by simp) rfl (fun h=>by cases h) (fun a h j v hj=>by
       cases h;have:=hcs j v hj
       rwa[<- Addr.add_lit]at this) hv0 h1v
      refine Calls.mono hc ?_
      rintro e w' ⟨rfl,rfl⟩
      have hge:=grownCap_ge w (xs.length+1) (E 100000).cap 3;have hle:grownCap w (xs.length+1) (E 100000).cap 3<=maxLen:=grownCap_le_maxLen w _ _ 3 (by rw[hmx];omega);have e0:Tryz.laysNm221_ren.t 3=3:=rfl;simp only[e0];generalize grownCap w (xs.length+1) (E 100000).cap 3=G at *;refine fin ⟨w.heap.size,0,G,xs.length+1,1,false⟩ (w.drew.alloc (.cells ((xs.map (Value.int .i64)++[Value.int .i64 x]).toArray++Builtin.zeroCells (Value.int .i64 0).cells (G - (xs.length+1))) 3)) _ rfl rfl rfl (by simp) (fun b hb _=>RowKit.Below.heap_alloc w.drew _ b hb) rfl (.inl ⟨zw _,by simp⟩) rfl rfl hge hle (Go.heap_alloc_new w.drew _) ?_ (fun j hj=>?_)
      . simp[size_zeroCells,Value.cells];omega
      . rw[kM _ _ _ (zw _)];simp only[zz];rw[zX (by simp;omega)];by_cases hj2:j < xs.length
        . rw[qb hj2,List.getElem?_toArray,yj (by simpa using hj2),zh]
        . have hje:j=xs.length:=by omega
          subst hje;simp
  . have hil2:i < xs.length:=by omega
    by_cases hroom:xs.length+1<=(E 100000).cap
    . refine (Any2.slices_Insert_int_shift Tryz.laysNm221 (E 100000).blk (E 100000).off xs.length (E 100000).cap i (E 100001).blk (E 100001).off 1 (E 100001).cap (xs.map (Value.int .i64)) [Value.int .i64 x] w hil2 (by decide) hroom (by rw[<- hmx];exact c2) hne (by simp) rfl hcs (fun j hj=>hsp j (by omega)) (fun j _=>hfz j) hv0 h1c h1v
       3 3 arr1.size arr.size (by simp[World.shape?,u3]) (by simp[World.shape?,c3]) (by omega) (by simp[World.frozen?,u3]) (by simp[World.frozen?,u3])).mono ?_
      rintro e w' ⟨rfl,rfl⟩
      have c3':w.drew.heap[(E 100000).blk]? = some (.cells arr 3 (0,0)):=c3;obtain⟨arr',a1,a2,a3⟩:=eY (E 100000).blk ((xs.map (Value.int .i64)).drop i) ((E 100000).off+(i+1)) w.drew arr 3 (0,0) c3';obtain⟨arr2,b1,b2,b3⟩:=eY (E 100000).blk [Value.int .i64 x] ((E 100000).off+i) _ arr' 3 (0,0) a1;obtain⟨e1,e2,e3⟩:=gC (E 100000).blk ((xs.map (Value.int .i64)).drop i) ((E 100000).off+(i+1)) w.drew;obtain⟨g1,g2,g3⟩:=gC (E 100000).blk [Value.int .i64 x] ((E 100000).off+i) (w.drew.setCells (E 100000).blk ((E 100000).off+(i+1)) ((xs.map (Value.int .i64)).drop i))
      refine fin ⟨(E 100000).blk,(E 100000).off,(E 100000).cap,xs.length+1,1,false⟩ _ arr2 (g1.trans e1) (g2.trans e2) (g3.trans e3) (by rw[gZ,gZ];exact zw _) (fun b hb hb2=>by
       rw[fA _ _ _ _ _ (hb2 hn),fA _ _ _ _ _ (hb2 hn)];rfl) rfl (.inr ⟨hn,rfl⟩) rfl rfl hroom c2 b1 (by rw[b2,a2];exact c4) (fun j hj=>?_)
      rw[b3 _ (by rw[a2];show (E 100000).off+j < arr.size;omega),a3 _ (by show (E 100000).off+j < arr.size;omega),kM _ _ _ hil];show (if (E 100000).off+i<=(E 100000).off+j/\_ then _ else if _<=(E 100000).off+j/\_ then _ else _)=_
      by_cases hj1:j < i
      . rw[qa (by omega),qa (by omega),qb hj1,ze (by omega)];exact c5 j _ (ze (by omega))
      . rw[qa hj1];by_cases hj2:j=i
        . subst hj2;rw[qb ⟨zw _,by simp⟩,qb rfl];simp
        . rw[qa (by simp;omega),qb ⟨by omega,by simp;omega⟩,qa hj2,zO,zh]
          congr 2
          show i+((E 100000).off+j - ((E 100000).off+(i+1)))=_
          omega
    . refine (Any2.slices_Insert_int_grow Tryz.laysNm221 (E 100000).blk (E 100000).off xs.length (E 100000).cap i (E 100001).blk (E 100001).off 1 (E 100001).cap (xs.map (Value.int .i64)) [Value.int .i64 x] w hil2 (by decide) c1 (by omega) (by omega) (by simp) rfl hcs hv0 h1c h1v).mono ?_
      rintro e w' ⟨rfl,rfl⟩
      have hge:=grownCap_ge w (xs.length+1) (E 100000).cap 3;have hle:grownCap w (xs.length+1) (E 100000).cap 3<=maxLen:=grownCap_le_maxLen w _ _ 3 (by rw[hmx];omega);have e0:Tryz.laysNm221_ren.t 3=3:=rfl;simp only[e0];generalize grownCap w (xs.length+1) (E 100000).cap 3=G at *;have hnew:=Go.heap_alloc_new w (.cells (((xs.map (Value.int .i64)).take i).toArray++Builtin.zeroCells (Value.int .i64 0).cells (xs.length+1 - i)++Builtin.zeroCells (Value.int .i64 0).cells (G - (xs.length+1))) 3 (0,0));generalize hA:(((xs.map (Value.int .i64)).take i).toArray++Builtin.zeroCells (Value.int .i64 0).cells (xs.length+1 - i)++Builtin.zeroCells (Value.int .i64 0).cells (G - (xs.length+1)))=A at hnew;have hAs:A.size=G:=by
       rw[<- hA];simp[size_zeroCells,Value.cells];omega
      have hAg:∀ j,j < i->A[j]? = (xs[j]?).map (Value.int .i64):=fun j hj=>by
       rw[<- hA,zX (by simp;omega),zX (by simp;omega)];simp[ya,hj]
      obtain⟨arr',a1,a2,a3⟩:=eY w.heap.size [Value.int .i64 x] i (w.alloc (.cells A 3 (0,0))).drew A 3 (0,0) hnew;obtain⟨arr2,b1,b2,b3⟩:=eY w.heap.size ((xs.map (Value.int .i64)).drop i) (i+1) ((w.alloc (.cells A 3 (0,0))).drew.setCells w.heap.size i [Value.int .i64 x]).drew arr' 3 (0,0) a1;obtain⟨e1,e2,e3⟩:=gC w.heap.size [Value.int .i64 x] i (w.alloc (.cells A 3 (0,0))).drew;obtain⟨g1,g2,g3⟩:=gC w.heap.size ((xs.map (Value.int .i64)).drop i) (i+1) ((w.alloc (.cells A 3 (0,0))).drew.setCells w.heap.size i [Value.int .i64 x]).drew;have hsz:(((w.alloc (.cells A 3 (0,0))).drew.setCells w.heap.size i [Value.int .i64 x]).drew.setCells w.heap.size (i+1) ((xs.map (Value.int .i64)).drop i)).heap.size=w.heap.size+1:=by
       rw[gZ];show ((w.alloc (.cells A 3 (0,0))).drew.setCells w.heap.size i [Value.int .i64 x]).heap.size=_
       rw[gZ];show (w.alloc (.cells A 3 (0,0))).heap.size=_
       simp
      refine fin ⟨w.heap.size,0,G,xs.length+1,1,false⟩ _ arr2 (g1.trans e1) (g2.trans e2) (g3.trans e3) (by rw[hsz];omega) (fun b hb _=>?_) rfl (.inl ⟨zw _,by rw[hsz];show w.heap.size < _;omega⟩) rfl rfl hge hle b1 (by rw[b2,a2,hAs];show 0+G<=G;omega) (fun j hj=>?_)
      . rw[fA _ _ _ _ _ (by omega)];show ((w.alloc (.cells A 3 (0,0))).drew.setCells w.heap.size i [Value.int .i64 x]).heap[b]? = _
        rw[fA _ _ _ _ _ (by omega)];exact RowKit.Below.heap_alloc w _ b hb
      . show arr2[0+j]? = _
        rw[zz,b3 _ (by rw[a2,hAs];omega),a3 _ (by rw[hAs];omega),kM _ _ _ hil];by_cases hj1:j < i
        . rw[qa (by omega),qa (by omega),qb hj1];exact hAg j hj1
        . rw[qa hj1];by_cases hj2:j=i
          . subst hj2;rw[qa (by omega),qb ⟨zw _,by simp⟩,qb rfl];simp
          . rw[qb ⟨by omega,by simp;omega⟩,qa hj2,zO,zh]
            congr 2
            omega
def vaF (l:List Int):C:=.fn (.func 200) [] [.ref [enc l]]
theorem uT (l:List Int):FC Tryz.prog 180 [enc l] [] (vaF l) []:=by
 refine dD [] D3.is180 (by simp) trivial trivial trivial trivial (fun cx _ hl _=>dC [] 800 ?_);delta D3.c180 oA oX o7;simp only[D3.rv180,V,W3,seval];refine iI (S_refB 1 1 rfl rfl rfl (dC [] 800 ?_));delta D3.c180k1 oO oA oM oX;simp only[D3.rv180,refS,vaF,V,W3,seval]
def tP : Ent Tryz.prog:=.of1 180 (fun _=>True) vaF (fun l=>by simp[vaF,dG,dG.keysIns]) (fun l _=>uT l)
theorem iterV_c (l:List Int) (h:l.length<=1000000):ItC Tryz.prog 200 [] [.ref [enc l]] [] 100000 (n9 l) l.length true:=by
 intro lb R Rf hy;refine pm [] is200 (by simp) (by simp) (fun o ho k cs hm=>by simp at ho;rcases ho with rfl | rfl <;> simp at hm) (fun cx _ _ _=>dC [] 800 ?_);delta c200 oL oV oX o4;simp only[l7,yb,z4,mC,V,W3,seval];refine S_loopU (α:=Nat) (fun v=>[(7,.s (.int .i64 (v:Int)))]) (fun v=>[(100000,.res (R v))]) (fun v=>v<=l.length) (fun v=>l.length - v) 0 (yF _) ?_ (fun i hv=>?_)
 . simp only[V,W3,seval]
   try simp
 . refine dC [] 800 ?_;by_cases h1:i < l.length
   . have hi2:(i:Int) < (l.length:Int):=by omega
     have hi0:(0:Int)<=i:=by omega
     have hs5:InR .i64 ((i:Int)+1):=by simp only[InR];omega
     delta qI oO oN oA oM oR oS oK oL oI oX oB o1;simp only[l7,mC,h1,hi2,hi0,hs5,InR,yb,z4,WU,V,W3,seval];have hyc:YAt Tryz.prog lb [.s (.int .i64 (l.getD i 0))] (R i) (some (R (i+1))) Rf:=by
      have:=hy i h1;simp only[n9,or_true,qj]at this;exact this
     generalize l.getD i 0=g at *
     repeat' first | (refine And.intro (by omega) ?_) | split
     refine D_outs rfl (OpM.yield (l:=lb) (kr:=100000) (xs:=[.s (.int .i64 g)]) (R:=R i) (Rt:=some (R (i+1))) (Rf:=Rf) rfl rfl rfl hyc) (fun ef hef=>pW [] 800 ?_);simp only[cq,cu,zl,zA,qk]at hef;rcases hef with rfl | rfl
     . simp only[l7,WU,V,W3,seval];refine⟨by omega,i+1,?_,?_,?_,rfl⟩
       . omega
       . omega
       . push_cast;rfl
     . simp only[l7,WU,V,W3,seval];exact⟨_,zq,trivial,rfl,trivial⟩
   . have hi2:¬ (i:Int) < (l.length:Int):=by omega
     have hie:i=l.length:=by omega
     subst hie;delta qI oO oN oA oM oR oS oK oL oI oX oB o1;simp only[l7,hi2,WU,V,W3,seval];exact⟨_,zo _ zq,trivial,rfl,trivial⟩
theorem qy (l:List Int) (h:l.length<=1000000):FC Tryz.prog 137 [.s (.slice none 0 0),vaF l] [] (.own 4) [(4,.row 1 3 (l.map Dat.cells))]:=by
 have hit:=iterV_c l h;refine dD [4] D3.is137 (by simp) trivial trivial (by simp[ap,ag,av]) (by simp[aC]) (fun cx hcx hl _=>dC [] 800 ?_);delta D3.c137 oO oA oM oR oS oK oL oX o7;simp only[D3.rv137,vaF,V,W3,seval];refine S_sh 200000 (by rw[hcx.2.2];exact zw _) (by rfl) ?_;simp only[V,W3,seval];refine rH (f:=200) (first:=[]) (caps:=[.ref [enc l]]) (ich:=[]) (kr:=100000) (vals:=n9 l) (N:=l.length) (fin:=true) [200002]
  (fun i=>[(200002,.box [if i=0 then .s (.slice none 0 0)else .isl 1 3 ((l.take i).map Dat.cells)])])
  hcx.2.1 rfl hit ⟨⟨rfl,trivial⟩,trivial⟩ ⟨fun c hc=>?_,fun k c hc=>by simp at hc⟩ ?_ (fun i hi=>?_) (fun k hk=>?_) (fun i hi=>?_) (fun i hi cx' _ hcx'=>dC [] 800 ?_) (fun _=>?_)
 . simp at hc;rcases hc with rfl;trivial
 . simp only[V,W3,seval]
 . simp only[V,W3,seval]
   all_goals simp
 . rw[hcx.2.2];simp only[zl,zA,qk]at hk;omega
 . refine⟨rfl,fun c hc=>?_⟩;simp only[n9,zg]at hc;subst hc;trivial
 . simp only[n9,V,W3,seval];intro cx'' _ _;refine dC [] 800 ?_;have hlen:(l.take i).length=i:=by simp;omega
   have hsn:=uH hi;cases i with
   | zero=>
    have h1:[[C.s (.int .i64 (l.getD 0 0))]]=(l.take 1).map Dat.cells:=by simpa using hsn
    delta D3.c137r1 oO oA oM oR oL oY o1;simp only[InR,V,W3,seval];rw[h1];exact⟨by decide,.inr trivial,rfl⟩
   | succ i=>
    delta D3.c137r1 oO oA oM oR oL oY o1;simp only[hlen,Nat.succ_ne_zero,InR,hsn,V,W3,seval];exact⟨⟨by decide,by omega,by omega⟩,by decide,.inr trivial⟩
 . by_cases hv0:l.length=0
   . have:l=[]:=List.length_eq_zero_iff.1 hv0;subst this;refine dC [] 800 ?_;simp only[D3.rv137,V,W3,seval];refine mA (i:=4) (sz:=1) (ty:=3) (by decide) rfl (iI (dC [] 100 ?_));delta D3.c137k2;simp only[D3.rv137,V,W3,seval]
   . simp only[qa hv0,yo];refine dC [] 800 ?_;simp only[D3.rv137,V,W3,seval];refine fE (dW.take (s:=4) (k:=200002) (j:=0) (by decide) rfl rfl trivial rfl (by decide)) (iI (dC [] 100 ?_));delta D3.c137k2;simp only[D3.rv137,V,W3,seval]
theorem tV (l:List Int):vaF l=.fn (.func 200) [] [.ref [.sl 1 (l.map Dat.cells)]]:=rfl
theorem wfr1 {k:Nat} {c:Ch} (hc:∀ cs,c≠.box cs):WfR [] (.own k) [(k,c)] [k]:=by
 refine⟨fun k' c' h=>.inl ?_,fun k cs h=>(by cases h),by simp[dG],fun k' c' h=>?_⟩
 . simp only[zg,zf]at h;rw[h.1];exact zg.2 rfl
 . simp only[zg,zf]at h;rw[h.2];cases c with
   | box cs=>exact absurd rfl (hc cs)
   |_=>trivial
def r7 : Ent Tryz.prog:=.mk3 137 (fun args chs=>match args,chs with
 |[.s (.slice none 0 0),.fn (.func f) [] [.ref [.sl 1 a]]],[]=>(fC a:Option (List Int)).bind fun l=>some (f=200/\l.length<=1000000,.own 4,[(4,.row 1 3 (l.map Dat.cells))],[4])
 |_,_=>none) (by
 intro args chs p r chs' nk hs hp;split at hs
 . simp only[zk,zn,zf]at hs;obtain⟨l,h1,rfl,rfl,rfl,rfl⟩:=hs;obtain⟨rfl,h⟩:=hp;have:=qy l h;rw[tV,<- iK h1]at this;exact⟨by rw[<- iK h1];exact this,wfr1 (fun cs h=>by cases h)⟩
 . cases hs)
theorem s7 (l:List Int) (h:l.length<=1000000):FC Tryz.prog 93 [vaF l] [] (.own 4) [(4,.row 1 3 (l.map Dat.cells))]:=by
 refine dD [4] is93 (by simp) trivial trivial (by simp[ap,ag,av]) (by simp[aC]) (fun cx _ hl _=>dC [r7] 800 ?_);delta c93 oO oA oM oC oX;simp only[rv93,tV,r7,h,V,W3,seval]
theorem CEv.of_ev' {E E':Env} {U U':Nat->Prop} {w w':World} {ch ch':Chs} {m:List (Nat×Sb)} {d:Nat} (he:Ev E U w ch m d E' U' w' ch') (hk:∀ k cs,(k,Ch.box cs)∉ch'):CEv E U w ch E' U' w' ch':=
 ⟨he.os,he.tape,he.output,he.size,he.keep,he.rest,he.live,he.newU,fun k cs h _=>absurd h (hk k cs),he.inv⟩
theorem CEv.then1 {E E1 E2:Env} {U U1 U2:Nat->Prop} {w w1 w2:World} {k:Nat} {c1 c2:Ch} (h1:CEv E U w [] E1 U1 w1 [(k,c1)]) (h2:CEv E1 U1 w1 [(k,c1)] E2 U2 w2 [(k,c2)]) (hb:∀ cs,c2≠.box cs):CEv E U w [] E2 U2 w2 [(k,c2)]:=by
 have hfp:∀ b,(E1 k).fp b->w.heap.size<=b:=fun b hb=>by
  rcases h1.live k c1 zq b hb with q | ⟨_,_,q,_⟩
  . exact q
  . cases q
 refine⟨h2.os.trans h1.os,h2.tape.trans h1.tape,h2.output.trans h1.output,z6 h1.size h2.size,fun b hu=>?_,fun b hb hno=>?_,fun k' c' hm b hb=>?_,fun b hu=>?_,fun k' cs hm h=>?_,h2.inv⟩
 . obtain⟨a1,a2⟩:=h1.keep b hu;obtain⟨b1,b2⟩:=h2.keep b a1;exact⟨b1,b2.trans a2⟩
 . rw[h2.rest b (yJ hb h1.size) (fun k' c' hm hf=>?_),h1.rest b hb (fun k' c' hm=>by cases hm)];simp only[zg,zf]at hm;obtain⟨rfl,rfl⟩:=hm;have:=hfp b hf;omega
 . rcases h2.live k' c' hm b hb with q | ⟨k0,c0,q,hf⟩
   . exact .inl (z6 h1.size q)
   . simp only[zg,zf]at q;obtain⟨rfl,rfl⟩:=q;exact .inl (hfp b hf)
 . rcases h2.newU b hu with q | q | ⟨k0,c0,q,hf⟩
   . rcases h1.newU b q with r | r | ⟨_,_,r,_⟩
     . exact .inl r
     . exact .inr (.inl r)
     . cases r
   . exact .inr (.inl (z6 h1.size q))
   . simp only[zg,zf]at q;obtain⟨rfl,rfl⟩:=q;exact .inr (.inl (hfp b hf))
 . obtain⟨c,hc⟩:=h;cases hc
theorem uR {E:Env} {U:Nat->Prop} {w:World} {k:Nat} {xs:List Int} (hi:Inv E U w.heap [(k,.row 1 3 (xs.map Dat.cells))]) (h:xs.length<=1000000) :
 Calls Tryz.prog 199 #[slV (E k).toKE0] w fun e w'=>e=.returned (.tuple #[])/\∃ E',(E' k).toKE0=(E k).toKE0/\CEv E U w [(k,.row 1 3 (xs.map Dat.cells))] E' U w' [(k,.row 1 3 ((fD xs).map Dat.cells))]:=by
 obtain⟨hrow,hfp⟩:=hi.ok k _ zq;have hl:=hrow.1;simp only[zy]at hl;cases hn:(E k).nil with
 | true=>
  have hx:xs=[]:=by
   rcases hrow.2.2.2 with⟨_,g⟩ | ⟨g,_⟩
   . simpa using g
   . rw[hn]at g;cases g
  subst hx;simp only[slV,hn,qj];refine (Any.slices_Sort_int_none Tryz.lays189 none 0 w).mono ?_
  rintro e w' ⟨rfl,rfl⟩
  refine⟨rfl,E,rfl,?_⟩;have:fD []=[]:=by simp[fD]
  rw[this];exact CEv.of_ev' (Ev.refl hi 0) (fun k cs h=>by simp at h)
 | false=>
  obtain⟨c1,_,arr,ha,hsz,_⟩:=io hrow hn;simp only[slV,hn,zr,qi,hl];refine (Any.slices_Sort_int Tryz.lays189 (E k).blk (E k).off (E k).cap xs w (pI hrow hn) (lt_of_getElem? ha) (by omega)).mono ?_
  rintro e w' ⟨rfl,n,os,rfl⟩
  have hlen:(fD xs).length=xs.length:=by simp[fD]
  have hblk:(E k).blk < w.heap.size:=lt_of_getElem? ha;have hownk:(E k).fp (E k).blk:=(hfp.fp _).2 (.inl ⟨hn,rfl⟩);have hheap:∀ b,b < w.heap.size->(Sort.grow (Sort.putRow (Value.int .i64) (Sort.ahead w n) (E k).blk (E k).off (fD xs).toArray) os).heap[b]? = (Sort.putRow (Value.int .i64) w (E k).blk (E k).off (fD xs).toArray).heap[b]?:=fun b hb=>by
   show ((Sort.putRow (Value.int .i64) (Sort.ahead w n) (E k).blk (E k).off (fD xs).toArray).heap++os)[b]? = _
   rw[zX (by simpa[Sort.ahead]using hb),fP,fP];rfl
  have he:=Ev.rekey (w1:=Sort.grow (Sort.putRow (Value.int .i64) (Sort.ahead w n) (E k).blk (E k).off (fD xs).toArray) os) (c1:=.row 1 3 ((fD xs).map Dat.cells)) (x:={ E k with len:=(fD xs).length }) (c0:=.row 1 3 (xs.map Dat.cells)) hi (by simp[lk]) rfl rfl rfl (by simp[Sort.grow,Sort.ahead]) (fun b hb hnb=>by
   have hne:¬ (E k).blk=b:=fun e=>hnb (e ▸ hownk)
   rw[hheap b hb,fP,qa hne]) (fun b hb=>.inr hb) (fun cs h=>by cases h) (fun hkeep=>by
   simp only[dM,updE_same];refine⟨?_,⟨hfp.fp,hfp.ne,hfp.sep⟩⟩
   exact ss hrow hn ha (by rw[hheap _ hblk,fP,qb rfl,ha];rfl) (fD xs) (by simp) (by simp[hlen]) (fun j x hj=>by simpa using hj)) 0
  refine⟨rfl,_,?_,CEv.of_ev' (by
   have e1:am (ae [(k,.c .any)] [(k,Ch.row 1 3 (xs.map Dat.cells))]) k (.row 1 3 ((fD xs).map Dat.cells))=[(k,.row 1 3 ((fD xs).map Dat.cells))]:=by simp[ae,am]
   rw[e1]at he
   exact he) (fun k cs h=>by simp at h)⟩
  rw[updE_same];show { (E k).toKE0 with len:=(fD xs).length }=_
  rw[hlen,<- hl]
theorem uS (l:List Int) (h:l.length<=1000000):FC Tryz.prog 179 [vaF l] [] (.own 4) [(4,.row 1 3 ((fD l).map Dat.cells))]:=by
 refine⟨⟨_,Tryz.func179,by kernel_rfl,by kernel_rfl⟩,fun E U aS w hgl ha hi=>?_⟩;have hC:=(s7 l h).2 E U aS w hgl ha hi;obtain⟨hs,hr⟩:=ha;have e93:∀ args w,(callFunc 93 args).run Tryz.prog w=.ok (.enter 93 args) w:=enters_of Tryz.func93 (by kernel_rfl) rfl;have e199:∀ args w,(callFunc 199 args).run Tryz.prog w=.ok (.enter 199 args) w:=enters_of Tryz.func199 (by kernel_rfl) rfl;generalize hv0:aS.getD 0 undef=v0;have hA:=args1 hs hv0;subst hA
 go_enter Tryz.func179,Tryz.ntmps179
 go_wp2_with (go_at_fn 93;refine hC.mono ?_;rintro e w1 ⟨v,E1,U1,rfl,hr1,hc1⟩)
 have hv:=eS hr1;subst hv
 go_wp2_with (go_at_fn 199;refine (uR hc1.inv h).mono ?_;rintro e w2 ⟨rfl,E2,hE2,hc2⟩)
 go_ret
 refine⟨_,E2,U1,rfl,?_,CEv.then1 hc1 hc2 (fun cs h=>by cases h)⟩;have:=Rep.own (E:=E2) (U:=U1) (h:=w2.heap) 4;rw[hE2]at this;exact this
theorem sQ (n:Nat) (h0:0 < n) (hn:n<=1000000) (w:World):Calls Tryz.prog 201 #[.slice none 0 0,.int .i64 n] w fun e w'=>∃ G,e=.returned (.slice (some ⟨w.heap.size,0,none⟩) 0 G)/\G<=maxLen/\∃ vs,w'=w.drew.alloc (.cells vs 3)/\G<=vs.size:=by
 have h1:¬ ((n:Int) < 0):=by omega
 have h4:(n:Int) > 0:=by omega
 have hmap:(Tryz.prog.info? 3).map (fun i=>(i.zero,i.size,i.bytes))=some (some (.int .i64 0),1,8):=by kernel_rfl
 obtain⟨i0,hi0,hq⟩:=za.1 hmap;simp only[zf]at hq;obtain⟨hz0,hs0,hb0⟩:=hq;have hrz:∀ ty,(Builtin.append_ #[24,3] ty #[.slice none 0 0,.int .i64 (n:Int)]).run Tryz.prog w =
  .ok (.slice (some ⟨w.heap.size,0,none⟩) n (grownCap w n 0 3)) (w.drew.alloc (.cells (#[]++Builtin.zeroCells (Value.int .i64 0).cells n++Builtin.zeroCells (Value.int .i64 0).cells (grownCap w n 0 3 - n)) 3)):=fun ty=>by
  have h:=Lib.run_append_grow_zeros w 24 3 ty 3 i0 (.int .i64 0) .i64 .i64 Tryz.underlying24 Tryz.underlying3 hi0 hz0 none 0 0 [] (run_firstCells_none w.drew i0.size 0 0 0) n h0 (by omega) (by omega) (by omega) (by rw[hb0];omega) (growslice_fits (by omega) (by rw[hb0];omega));simpa using h
 have hge:n<=grownCap w n 0 3:=grownCap_ge w _ _ _;have hle:grownCap w n 0 3<=maxLen:=grownCap_le_maxLen w n 0 3 (by unfold maxLen;omega);generalize grownCap w n 0 3=G at *;have hG63:G<=9223372036854775807:=by unfold maxLen at hle;omega
 go_enter Tryz.func201,Tryz.ntmps201
 go_wp2_with (at_builtin;refine Lib.wpList_append_run _ rfl _ _ _ _ rfl _ _ rfl rfl _ _ (hrz _) ?_)
 all_goals (go_ret;refine⟨G,rfl,hle,_,rfl,?_⟩)
 simp[size_zeroCells,Value.cells];omega
theorem Grow_c (n:Int) (h0:0 < n) (hn:n<=1000000):FC Tryz.prog 201 [.s (.slice none 0 0),enc n] [] (.own 5) [(5,.row 1 3 [])]:=by
 obtain⟨N,rfl⟩:∃ N:Nat,n=(N:Int):=⟨n.toNat,by omega⟩;refine⟨⟨_,Tryz.func201,by kernel_rfl,by kernel_rfl⟩,fun E U aS w hg ha hi=>?_⟩;obtain⟨hs,hr⟩:=ha;have hA:=dK (hr 0 _ rfl);have hB:=dK (hr 1 _ rfl);have hv:aS=#[.slice none 0 0,.int .i64 N]:=by
  refine Array.ext (by simpa using hs) (fun i h1 h2=>?_);simp at h2;rw[zc]at hA hB
  match i,h1,h2 with
  | 0,h1,_=>rw[zj h1]at hA;exact hA
  | 1,h1,_=>rw[zj h1]at hB;exact hB
 rw[hv];refine (sQ N (by omega) (by omega) w).mono ?_
 rintro e w' ⟨G,rfl,hG,vs,rfl,hsz⟩
 refine⟨_,fun k=>if k=5 then ⟨⟨w.heap.size,0,G,0,1,false⟩,fun _=>default,fun b=>b=w.heap.size⟩else E k,U,rfl,?_,?_⟩
 . exact Rep.own 5
 . have hold:∀ b,b < w.heap.size->(w.drew.alloc (.cells vs 3)).heap[b]? = w.heap[b]?:=fun b hb=>RowKit.Below.heap_alloc w.drew _ b hb
   refine⟨rfl,rfl,rfl,by simp,fun b h=>⟨h,hold b (hi.lt b h)⟩,fun b h _=>hold b h,fun k c h b hb=>?_,fun b h=>.inl h,fun k cs h=>(by simp at h),⟨by simp,fun k c h=>?_,fun k c k' c' h h' hne=>?_,fun k c h b hb=>?_,fun k c h b hb=>?_,fun b h=>?_⟩⟩
   . simp only[zg,zf]at h;obtain⟨rfl,rfl⟩:=h;have:b=w.heap.size:=hb;exact .inl (by omega)
   . simp only[zg,zf]at h;obtain⟨rfl,rfl⟩:=h;refine⟨⟨rfl,rfl,fun i e he=>by simp at he,.inr ⟨rfl,yF _,hG,vs,heap_alloc_new w.drew _,?_,fun i e j c he=>by simp at he⟩⟩,⟨fun b=>?_,fun i q h=>(by cases h),fun i j q q' _ h=>(by cases h)⟩⟩
     . simpa using hsz
     . constructor
       . intro h;exact .inl ⟨rfl,Eq.symm h⟩
       . rintro (⟨_,h⟩ | ⟨i,q,h,_⟩)
         . exact h.symm
         . cases h
   . simp only[zg,zf]at h h';exact absurd (h.1.trans h'.1.symm) hne
   . simp only[zg,zf]at h;obtain⟨rfl,rfl⟩:=h;intro hu;have e:b=w.heap.size:=hb;have:=hi.lt b hu;omega
   . simp only[zg,zf]at h;obtain⟨rfl,rfl⟩:=h;have e:b=w.heap.size:=hb;simp[e]
   . have:=hi.lt b h;simp;omega
def tR : Ent Tryz.prog:=.mk3 201 (fun args chs=>match args,chs with
 |[.s (.slice none 0 0),.s (.int .i64 n)],[]=>some (0 < n/\n<=1000000,.own 5,[(5,.row 1 3 [])],[5])
 |_,_=>none) (by
 intro args chs p r chs' nk hs hp;split at hs
 . simp only[zn,zf]at hs;obtain⟨rfl,rfl,rfl,rfl⟩:=hs;refine⟨Grow_c _ hp.1 hp.2,⟨fun k c h=>.inl ?_,fun k cs h=>by simp at h,zg.2 rfl,fun k c h=>?_⟩⟩
   . simp only[zg,zf]at h;rw[h.1];exact zg.2 rfl
   . simp only[zg,zf]at h;rw[h.2];trivial
 . cases hs)
theorem rP (w:World):Calls Tryz.prog 201 #[.slice none 0 0,.int .i64 0] w fun e w'=>e=.returned (.slice none 0 0)/\w'=w:=by
 go_enter Tryz.func201,Tryz.ntmps201
 go_wp2
 go_ret
 exact⟨rfl,rfl⟩
theorem Grow0_c : FC Tryz.prog 201 [.s (.slice none 0 0),.s (.int .i64 0)] [] (.s (.slice none 0 0)) []:=by
 refine FC.scal (vs:=[.slice none 0 0,.int .i64 0]) ⟨_,Tryz.func201,by kernel_rfl,by kernel_rfl⟩ (fun U w hg hU=>?_);refine (rP w).mono ?_
 rintro e w' ⟨rfl,rfl⟩
 exact⟨_,rfl,fun E U h=>.d (.s _),.refl _ _⟩
def r8 : Ent Tryz.prog:=.mk3 201 (fun args chs=>match args,chs with
 |[.s (.slice none 0 0),.s (.int .i64 n)],[]=>some (n=0,.s (.slice none 0 0),[],[])
 |_,_=>none) (by
 intro args chs p r chs' nk hs hp;split at hs
 . simp only[zn,zf]at hs;obtain⟨rfl,rfl,rfl,rfl⟩:=hs;subst hp;exact⟨Grow0_c,.plain trivial⟩
 . cases hs)
theorem lO {l:List (List Int)} {i:Nat} (h:i < l.length):(l.take (i+1)).flatten=(l.take i).flatten++l.getD i []:=by
 rw[pM [] h,List.flatten_append];simp
theorem oo (xs:List (List Int)) (i:Nat) (h:i < xs.length):List.getD (xs.map Dat.cells) i [C.sl 0 []]=[C.sl 1 ((xs.getD i []).map Dat.cells)]:=by
 rw[zb,zb,zh,ze h];rfl
theorem uI (x:List (List Int)) (h1:x.length<=1000) (h2:x.flatten.length<=1000000):FC Tryz.prog 181 [enc x] [] (enc x.flatten) []:=by
 have hT:∀ i,i<=x.length->((x.take i).flatten.length:Int)<=x.flatten.length:=fun i _=>by
  have e:x.flatten=(x.take i).flatten++(x.drop i).flatten:=by rw[<- List.flatten_append,List.take_append_drop]
  rw[e,zK];push_cast;omega
 refine dD [] is181 (by simp) trivial trivial trivial trivial (fun cx _ hl _=>dC [] 800 ?_);delta c181 oO oA oM oS oK oV oC oX o4;simp only[ju,WU,V,W3,seval];refine fH x.length (fun i=>[(3,.s (.int .i64 ((x.take i).flatten.length:Int))),(11,.s (.int .i64 (i:Int)))]) (fun _=>[]) (fun _=>True) trivial ?_ (fun i hi _=>?_)
 . simp only[V,W3,seval]
   all_goals simp
 . by_cases h:i < x.length
   . have hi2:(i:Int) < (x.length:Int):=by omega
     have hi0:(0:Int)<=i:=by omega
     have hg:=oo x i h;have hfl:=lO h;have hb1:=hT (i+1) h;rw[hfl,zK]at hb1;have hn0:¬ ((x.take i).flatten.length:Int)+((x.getD i []).length:Int) < 0:=by omega
     generalize x.getD i []=g at *;refine dC [] 800 ?_;delta m7 oO oN oA oM oR oS oK oL oI oX oB o0 o4;simp only[ju,h,hi2,hi0,hg,hn0,hfl,zK,InR,WU,V,W3,seval]
     push_cast at *
     omega
   . have hi2:¬ (i:Int) < (x.length:Int):=by omega
     have hie:i=x.length:=by omega
     subst hie;rw[yo];have step:∀ (kk:Nat) (st:ASt),kk=6\/kk=24->True:=fun _ _ _=>trivial
     by_cases hz:x.flatten.length=0
     . have hz0:((x.flatten.length:Nat):Int)=0:=by omega
       refine dC [r8] 800 ?_;delta m7 oO oN oA oM oR oS oK oL oI oX oB o0 o4;simp only[ju,hi2,r8,hz0,WU,V,W3,seval];refine mA (i:=6) (sz:=1) (ty:=3) (by decide) rfl ?_;refine fH x.length (fun i=>[(27,.s (.int .i64 (i:Int)))]) (fun i=>[(6,.row 1 3 ((x.take i).flatten.map Dat.cells))]) (fun _=>True) trivial ?_ (fun i hi _=>dC [] 800 ?_)
       . simp only[V,W3,seval]
         all_goals simp
       . by_cases h:i < x.length
         . have hi2:(i:Int) < (x.length:Int):=by omega
           have hi0:(0:Int)<=i:=by omega
           have hg:=oo x i h;have hfl:=lO h;have hb1:=hT (i+1) h;rw[hfl,zK]at hb1;generalize x.getD i []=g at *;delta ll oO oN oA oM oR oS oK oL oX oB o0 o1;simp only[ju,h,hi2,hi0,hg,hfl,yg,zy,InR,WU,V,W3,seval];omega
         . have hi2:¬ (i:Int) < (x.length:Int):=by omega
           have hie:i=x.length:=by omega
           subst hie;delta ll oO oN oA oM oR oS oK oL oX oB o0 o1;simp only[ju,hi2,yo,WU,V,W3,seval]
     . have hz0:(0:Int) < (x.flatten.length:Int):=by omega
       have hz1:(x.flatten.length:Int)<=1000000:=by omega
       refine dC [tR] 800 ?_;delta m7 oO oN oA oM oR oS oK oL oI oX oB o0 o4;simp only[ju,hi2,tR,hz0,hz1,WU,V,W3,seval];refine fH x.length (fun i=>[(27,.s (.int .i64 (i:Int)))]) (fun i=>[(24,.row 1 3 ((x.take i).flatten.map Dat.cells))]) (fun _=>True) trivial ?_ (fun i hi _=>dC [] 800 ?_)
       . simp only[V,W3,seval]
         all_goals simp
       . by_cases h:i < x.length
         . have hi2:(i:Int) < (x.length:Int):=by omega
           have hi0:(0:Int)<=i:=by omega
           have hg:=oo x i h;have hfl:=lO h;have hb1:=hT (i+1) h;rw[hfl,zK]at hb1;generalize x.getD i []=g at *;delta ll oO oN oA oM oR oS oK oL oX oB o0 o1;simp only[ju,h,hi2,hi0,hg,hfl,yg,zy,InR,WU,V,W3,seval];omega
         . have hi2:¬ (i:Int) < (x.length:Int):=by omega
           have hie:i=x.length:=by omega
           subst hie;delta ll oO oN oA oM oR oS oK oL oX oB o0 o1;simp only[ju,hi2,yo,WU,V,W3,seval]
def tQ : Ent Tryz.prog:=.of1 181 (fun x=>x.length<=1000/\x.flatten.length<=1000000) (fun x:List (List Int)=>enc x.flatten) (fun _=>trivial) (fun x h=>uI x h.1 h.2)
end Go.Proofs.YtcbabnbiinkafaaGreatDoor
end
section
open Go Go.Am
open Go.Am.Dat (cells)
namespace Go.Proofs.YtcbabnbiinkafaaGreatDoor
def fB (b:List (List Int)):List (List (List C)):=b.map fun r=>r.map Dat.cells
end Go.Proofs.YtcbabnbiinkafaaGreatDoor
end
