/- Part 3 of the proof of: TopMoveTold returns true for every input and never panics: a right log told in texts, and in two halves with the state told between them, gives the same state, and what is possible there is the same and not nothing; conditions: those of the given statement, that the package variables it lists hold what their initialisers lay. -/
import Derived.Lib.ItoaLen
import Derived.Test.YtcbabnbiinkafaaGreatDoorTopMoveTold2
set_option linter.all false
set_option maxHeartbeats 8000000
set_option maxRecDepth 100000
section
open Go Go.Am
open Go.Am.Dat (cells)
namespace Go.Proofs.YtcbabnbiinkafaaGreatDoor
theorem Lists_c (x y:List (List Int)):FC Tryz.prog 100 [enc x,enc y] [] (enc (decide (x=y))) []:=by
 refine dD [] is100 (by simp) trivial trivial trivial trivial (fun cx _ hl _=>dC [ent30] 800 ?_);simp only[V,W3,seval]at hl;have hlx:=hl.1.list;generalize hB:decide (x=y)=B;by_cases h1:x.length=y.length
 rotate_left
 . have h1':¬ (x.length:Int)=y.length:=by omega
   have hb:B=false:=by rw[<- hB];exact decide_eq_false fun e=>h1 (by rw[e])
   delta c100 oO oM oS oK oV oI oX oB o4 o9;simp only[rv100,h1',hb,WU,V,W3,seval]
 have h1':(x.length:Int)=y.length:=by omega
 delta c100 oO oM oS oK oV oI oX oB o4 o9;simp only[rv100,h1',qc,WU,V,W3,seval];refine fH x.length (fun i=>[(5,.s (.int .i64 (i:Int)))]) (fun _=>[]) (fun i=>B=decide (x.drop i=y.drop i)) (by rw[<- hB];rfl) ?_ (fun i hi hv=>dC [ent30] 800 ?_)
 . simp only[V,W3,seval]
   all_goals simp
 . by_cases h:i < x.length
   . have hi2:(i:Int) < (x.length:Int):=by omega
     have hi3:(i:Int) < (y.length:Int):=by omega
     have h':i < y.length:=by omega
     have hi0:(0:Int)<=i:=by omega
     rw[fI [] h,fI [] h']at hv;have hgx:List.getD (x.map Dat.cells) i [C.sl 0 []]=[C.sl 1 ((x.getD i []).map Dat.cells)]:=by
      rw[zb,zb,zh,ze h];rfl
     have hgy:List.getD (y.map Dat.cells) i [C.sl 0 []]=[C.sl 1 ((y.getD i []).map Dat.cells)]:=by
      rw[zb,zb,zh,ze h'];rfl
     have hxl:i < x.length:=h;have hok:(-9223372036854775808<=(i:Int)+1/\(i:Int)+1<=9223372036854775807):=by omega
     generalize x.getD i []=p at *;generalize y.getD i []=q at *;cases hx:decide (p=q)
     all_goals
      delta Cl oO oN oA oM oT oR oQ oS oK oL oI oX oB o0 o4 o9;simp only[ent30,hi0,hi2,hi3,h,h',hgx,hgy,hx,InR,WU,Ent.of2,V,W3,seval];have hx2:=hx;simp only[qf,ql]at hx2
      first
       | exact⟨hok,by rw[hv,hx2];simp,by omega⟩
       | (rw[hv];exact (decide_eq_false (fun e=>hx2 (List.cons.inj e).1)).symm)
   . have hi2:¬ (i:Int) < (x.length:Int):=by omega
     rw[zv (by omega),zv (by omega)]at hv;delta Cl oO oN oA oM oT oR oQ oS oK oL oI oX oB o0 o4 o9;simp only[ent30,hi2,WU,Ent.of2,V,W3,seval]
     try simp[hv]
def Ea : Ent Tryz.prog:=.of2 100 (fun _ _=>True) (fun x y:List (List Int)=>enc (decide (x=y))) (fun _ _=>trivial) (fun x y _=>Lists_c x y)
theorem ww (m:Ms):gx (.agg [C.s (.int .i64 m.at_),.s (.int .i64 m.vP),.s (.int .i64 m.since),.s (.int .i64 m.vG),.s (.int .i64 m.target),.s (.int .i64 m.vS),.s (.int .i64 m.path),.s (.int .i64 m.fresh),.s (.int .i64 m.got),.sl 1 (m.buf.map Dat.cells)])=some m:=by
 unfold gx;have:Dat.dec (α:=Ms) [C.s (.int .i64 m.at_),.s (.int .i64 m.vP),.s (.int .i64 m.since),.s (.int .i64 m.vG),.s (.int .i64 m.target),.s (.int .i64 m.vS),.s (.int .i64 m.path),.s (.int .i64 m.fresh),.s (.int .i64 m.got),.sl 1 (m.buf.map Dat.cells)]=(fC (m.buf.map Dat.cells)).map fun r'=>(⟨m.at_,m.vP,m.since,m.vG,m.target,m.vS,m.path,m.fresh,m.got,r'⟩:Ms):=rfl
 simp only[this,fM];rw[qb (show (Dat.agg Ms)=true from rfl)];rfl
theorem ms_eq (a b:Ms):decide (a=b)=(decide (a.at_=b.at_) && (decide (a.vP=b.vP) && (decide (a.since=b.since) && (decide (a.vG=b.vG) && (decide (a.target=b.target) && (decide (a.vS=b.vS) && (decide (a.path=b.path) && (decide (a.fresh=b.fresh) && (decide (a.got=b.got) && decide (a.buf=b.buf)))))))))):=by
 rw[yH];cases a;cases b;simp
theorem Same_c (a b:Ms):FC Tryz.prog 41 [enc a,enc b] [] (enc (decide (a=b))) []:=by
 refine dD [] is41 (by simp) trivial trivial trivial trivial (fun cx _ hl _=>dC [Ea] 1500 ?_);rw[ms_eq];delta c41 oO oM oG oF oL oX oP oB oE oJ o7 o9;simp (maxSteps:=9^7) only[rv41,Ea,qT,WU,Ent.of2,V,W3,seval]
 repeat' split
 all_goals simp_all
def Ap : Ent Tryz.prog:=.of2 41 (fun _ _=>True) (fun a b:Ms=>enc (decide (a=b))) (fun _ _=>trivial) (fun a b _=>Same_c a b)
theorem ED (m:Ms) (h1:m.buf.length<=1000000) (h2:fc m.buf<=1000000000):FC Tryz.prog 116 [enc m] [] (enc (fc m.buf)) []:=by
 refine dD [] is116 (by simp) trivial trivial trivial trivial (fun cx _ hl _=>dC [] 800 ?_);generalize hT:fc m.buf=T at *;delta c116 oM oS oK oV oX o7;simp only[Cc,qT,WU,V,W3,seval];refine fH m.buf.length (fun i=>[(3,.s (.int .i64 (T - fc (m.buf.drop i)))),(4,.s (.int .i64 (i:Int)))]) (fun _=>[]) (fun i=>0<=T - fc (m.buf.drop i)) (by simp[hT]) ?_ (fun i hi hv=>dC [] 800 ?_)
 . simp only[V,W3,seval]
   all_goals simp[hT]
 . by_cases h:i < m.buf.length
   . have hi2:(i:Int) < (m.buf.length:Int):=by omega
     have hi0:(0:Int)<=i:=by omega
     have hgx:List.getD (m.buf.map Dat.cells) i [C.sl 0 []]=[C.sl 1 ((m.buf.getD i []).map Dat.cells)]:=by
      rw[zb,zb,zh,ze h];rfl
     have hd:=fI (d:=[]) h;have hnn:=sq (m.buf.drop (i+1));rw[hd,fc]at hv;generalize m.buf.getD i []=p at *;delta Cp oO oN oA oM oR oS oK oF oL oX oB o0 o4;simp only[Cc,hi0,hi2,h,hgx,hd,fc,InR,WU,V,W3,seval];omega
   . have hi2:¬ (i:Int) < (m.buf.length:Int):=by omega
     have hd:m.buf.drop i=[]:=zv (by omega);delta Cp oO oN oA oM oR oS oK oF oL oX oB o0 o4;simp only[Cc,hi2,hd,fc,WU,V,W3,seval];omega
def Ee : Ent Tryz.prog:=.of1 116 (fun m:Ms=>m.buf.length<=1000000/\fc m.buf<=1000000000) (fun m=>enc (fc m.buf)) (fun _=>trivial) (fun m h=>ED m h.1 h.2)
theorem EK (p q:T3):(decide (p.x=q.x) && (decide (p.y=q.y) && decide (p.z=q.z)))=decide (p=q):=by
 rw[yH];cases p;cases q;simp
theorem DU (x y:List T3):FC Tryz.prog 77 [enc x,enc y] [] (enc (decide (x=y))) []:=by
 refine dD [] is77 (by simp) trivial trivial trivial trivial (fun cx _ hl _=>dC [] 800 ?_);simp only[V,W3,seval]at hl;have hlx:=hl.1.list;generalize hB:decide (x=y)=B;by_cases h1:x.length=y.length
 rotate_left
 . have h1':¬ (x.length:Int)=y.length:=by omega
   have hb:B=false:=by rw[<- hB];exact decide_eq_false fun e=>h1 (by rw[e])
   delta c77 oO oM oS oK oV oI oX oB o4 o9;simp only[rv77,qx,sb,qJ,h1',hb,WU,V,W3,seval]
 have h1':(x.length:Int)=y.length:=by omega
 delta c77 oO oM oS oK oV oI oX oB o4 o9;simp only[rv77,qx,sb,qJ,h1',qc,WU,V,W3,seval];refine fH x.length (fun i=>[(5,.s (.int .i64 (i:Int)))]) (fun _=>[]) (fun i=>B=decide (x.drop i=y.drop i)) (by rw[<- hB];rfl) ?_ (fun i hi hv=>dC [] 800 ?_)
 . simp only[V,W3,seval]
   all_goals simp
 . by_cases h:i < x.length
   . have hi2:(i:Int) < (x.length:Int):=by omega
     have hi3:(i:Int) < (y.length:Int):=by omega
     have h':i < y.length:=by omega
     have hi0:(0:Int)<=i:=by omega
     have hok:(-9223372036854775808<=(i:Int)+1/\(i:Int)+1<=9223372036854775807):=by omega
     rw[fI ⟨0,0,0⟩ h,fI ⟨0,0,0⟩ h']at hv;delta c77l1 oO oN oA oM oT oR oQ oS oK oI oX oB o3 o4 o5 o9;simp only[qx,sb,qJ,hi0,hi2,hi3,h,h',InR,WU,V,W3,seval];generalize x.getD i ⟨0,0,0⟩=p at *;generalize y.getD i ⟨0,0,0⟩=q at *;rw[EK];by_cases hpq:p=q
     . subst hpq;rw[decide_eq_true (rfl:p=p),qa (by decide)];exact⟨hok,by rw[hv];simp,by omega⟩
     . rw[decide_eq_false hpq,qb rfl,hv];exact (decide_eq_false (fun e=>hpq (List.cons.inj e).1)).symm
   . have hi2:¬ (i:Int) < (x.length:Int):=by omega
     rw[zv (by omega),zv (by omega)]at hv;delta c77l1 oO oN oA oM oT oR oQ oS oK oI oX oB o3 o4 o5 o9;simp only[qx,hi2,WU,V,W3,seval]
     try simp[hv]
def ent77 : Ent Tryz.prog:=.of2 77 (fun _ _=>True) (fun x y:List T3=>enc (decide (x=y))) (fun _ _=>trivial) (fun x y _=>DU x y)
def wU (n:Nw) (m:Ms) (e:T3):Ms:=if fY n m e≠0 then ms0 else qE n m e
theorem dN.gap60 {n:Nw} {m:Ms} (g:dN n m):m.fresh - m.got<=60:=by
 have key:∀ (k:Nat) (l:List Int) (a:Int),(∀ x,a<=x->x < a+k->x∈l)->k<=l.length:=by
  intro k
  induction k with
  | zero=>intros;omega
  | succ k ih=>
   intro l a h;have h0:a∈l:=h a (by omega) (by omega);have h1:=ih (l.erase a) (a+1) (fun x h1 h2=>(List.mem_erase_of_ne (by omega)).2 (h x (by omega) (by push_cast;omega)));have h2:=List.length_erase_of_mem h0;have h3:=List.length_pos_of_mem h0;omega
 have:=key (m.fresh - m.got).toNat m.buf.flatten m.got (fun x h1 h2=>g.gap x h1 (by omega));have:=g.large;have:=g.got;omega
def msC (m:Ms) (kB:Nat):List C:=[.s (.int .i64 m.at_),.s (.int .i64 m.vP),.s (.int .i64 m.since),.s (.int .i64 m.vG),.s (.int .i64 m.target),.s (.int .i64 m.vS),.s (.int .i64 m.path),.s (.int .i64 m.fresh),.s (.int .i64 m.got),.own kB]
theorem BL (n:Nw) (p:Ph) (c:Int) (h:NwS n):FC Tryz.prog 145 [.ptr 100000 0,enc c] (phX n p) (enc (isC n c)) (phX n p):=by
 have hb:=h.c;refine dD [100001] is145 (by simp) (dP n p) (dE n p) (dE n p) (dI n p p) (fun cx _ hl _=>dC [gi] 1200 ?_);delta c145 oO oN oM oF oL oC oX oB o4 o6 o9;simp only[rv145,phX,phC,gi,isC,InR,WU,Ent.of3,V,W3,seval];omega
def Cz (n:Nw) (p:Ph) (c:Int) (h:NwS n):Ent Tryz.prog:=ei 145 n p p [.ptr 100000 0,enc c] (enc (isC n c)) trivial (BL n p c h)
def ent80 : Ent Tryz.prog:=.of1 80 Prt (fun m=>enc (fmtS m)) (fun _=>trivial) (fun m h=>pP m h)
def wu (f:FuncId) (as0:List C) (r:C) (h:FC Tryz.prog f as0 [] r []) (hr:dG [] r):Ent Tryz.prog:=.mk3 f (fun args chs=>some (args=as0/\chs=[],r,[],[])) (by
 intro args chs pp r' chs' nk hs hq;simp only[zn,zf]at hs;obtain⟨rfl,rfl,rfl,rfl⟩:=hs;obtain⟨rfl,rfl⟩:=hq
 exact⟨h,⟨fun k c hm=>(by simp at hm),fun k cs hm=>(by simp at hm),hr,fun k c hm=>(by simp at hm)⟩⟩)
def Aj (n:Nw) (m:Ms):List T3->List Int
 |[]=>[]
 | e :: l=>(if m.got < (qE n m e).got then [m.got]else [])++Aj n (qE n m e) l
theorem Bi (m:Ms):(settle m).got=m.got:=by
 unfold Go.Proofs.YtcbabnbiinkafaaGreatDoor.settle;split <;> rfl
theorem BK (n:Nw) (m:Ms) (t:Int):(p8 n m t).got=m.got:=by unfold p8;split <;> rfl
theorem Dn (m:Ms) (e:T3):(eG m e).got=if e.x=1/\(dO m m.vG).headD 0=m.got then m.got+1 else m.got:=by
 unfold eG;by_cases h:e.x=1
 . simp only[h,Int.reduceEq,qj,qi,true_and];split <;> rfl
 . simp only[h,false_and,qi]
   repeat' split
   all_goals rfl
theorem DM (n:Nw) (p:Ph) (e:T3):(km n p e).recv=p.recv++(if p.m.got < (qE n p.m e).got then [p.m.got]else []):=by
 have hg:(eJ n p e.y).m.got=p.m.got:=by rw[ou,BK]
 have hr:=(pC n p e.y).2.1;have hA:(qE n p.m e).got=(doP (eJ n p e.y) e).m.got:=by
  rw[<- qD];rfl
 rw[hA];show (doP (eJ n p e.y) e).recv=_
 rw[<- hr,<- hg];generalize eJ n p e.y=q;unfold doP;by_cases h10:e.x=10
 . simp only[qb h10];show q.recv=q.recv++(if q.m.got < q.m.got then [q.m.got]else [])
   simp
 . simp only[qa h10,Bi,Dn];split
   . rw[qb (by omega)]
   . simp
theorem Bn (n:Nw):∀ (l:List T3) (p:Ph),(jj n p l).recv=p.recv++Aj n p.m l
 |[],p=>by simp[jj,Aj]
 | e :: l,p=>by
  rw[jj,Bn n l,DM,qD,Aj,ye]
structure Rw where
 m:Ms
 st:List T3
 ouw:List Gs
def hiTo (l:List Gs) (t:Int):List Gs:=l.set (l.length - 1) ⟨(l.getD (l.length - 1) ⟨0,0⟩).re,t⟩
def CW (n:Nw) (w:Rw) (t:Int):Rw:=
 if jt n w.m t=true then ⟨p8 n w.m t,chg w.st w.m.vG (p8 n w.m t).vG (w.m.since+n.limit),hiTo w.ouw (w.m.since+n.limit)⟩else w
def xW (b:Rw) (x:Ms) (t:Int):Rw:=
 ⟨x,chg b.st b.m.vG x.vG t,
  let o:=if ed b.m=false/\ed x=true then b.ouw++[⟨t,0⟩]else b.ouw
  if ed b.m=true/\ed x=false then hiTo o t else o⟩
def EI (n:Nw) (w:Rw) (e:T3):Rw:=xW (CW n w e.y) (qE n w.m e) e.y
def Dx (n:Nw) (w:Rw):List T3->Rw
 |[]=>w
 | e :: l=>Dx n (EI n w e) l
def BA (n:Nw) (c:Int):Rw:=⟨eM n c,[⟨c,0,0⟩],[]⟩
def x6 (l:List Gs):Int:=l.foldl (fun a o=>max a (o.im - o.re)) 0
theorem BO (l:List Gs) (o:Gs):x6 (l++[o])=max (x6 l) (o.im - o.re):=by simp[x6]
theorem BM (l:List Gs) (o:Gs) (t:Int):hiTo (l++[o]) t=l++[⟨o.re,t⟩]:=by
 unfold hiTo;have h1:(l++[o]).length - 1=l.length:=by simp
 rw[h1];have h2:(l++[o]).getD l.length ⟨0,0⟩=o:=by simp[zb]
 rw[h2,List.set_append_right _ _ (zw _)];simp
structure RwOk (n:Nw) (p:Ph) (w:Rw):Prop where
 m:w.m=p.m
 st:w.st=p.stays
 no:ed p.m=false->p.out=-1/\x6 w.ouw=p.vL
 yes:ed p.m=true->p.out=p.m.since/\∃ l,w.ouw=l++[⟨p.out,0⟩]/\x6 l=p.vL
 lim:p.vL<=n.limit
 nnw:0<=p.vL
theorem RwOk.begin {n:Nw} (hn:NetOk n) (c:Int):RwOk n (gk n c) (BA n c):=by
 have:=hn.lim;refine⟨rfl,rfl,fun _=>⟨rfl,rfl⟩,fun h=>by simp[ed,gk,eM]at h,?_,?_⟩
 . show (0:Int)<=n.limit;omega
 . exact Int.le_refl 0
theorem Cj {o l t:Int} (h:0<=o):kz o l t=max l (t - o):=by unfold kz;rw[qa (by omega)]
theorem RwOk.pass {n:Nw} {p:Ph} {w:Rw} (hn:NetOk n) (r:RwOk n p w) (hs:0<=p.m.since) (t:Int):RwOk n (eJ n p t) (CW n w t):=by
 unfold eJ CW;rw[r.m];by_cases h:jt n p.m t=true
 . rw[qb h,qb h];have ha:ed p.m=true:=by simp only[jt,zm]at h;exact h.1
   obtain⟨ho,l,hl,hL⟩:=r.yes ha;have hbk:=Cj (o:=p.out) (l:=p.vL) (t:=p.m.since+n.limit) (by omega);have hP:p8 n p.m t=iA p.m 0 (p.m.since+n.limit):=by unfold p8;rw[qb h]
   have h1:=r.lim;have h2:=r.nnw;refine⟨hP,by rw[hP,r.st];rfl,fun _=>⟨rfl,?_⟩,fun q=>by simp[ed,kH,iA]at q,?_,?_⟩
   . show x6 (hiTo w.ouw _)=kz _ _ _
     rw[hl,BM,BO,hL,hbk]
   . show kz _ _ _<=_
     rw[hbk];omega
   . show 0<=kz _ _ _
     rw[hbk];omega
 . rw[qa h,qa h];exact r
theorem wG (l:List T3) (a t:Int):chg l a a t=l:=by unfold chg;rw[qb rfl]
theorem xx (m:Ms):(settle m).vG=m.vG/\(settle m).vP=m.vP/\(settle m).since=m.since:=by
 unfold Go.Proofs.YtcbabnbiinkafaaGreatDoor.settle;split <;> exact⟨rfl,rfl,rfl⟩
theorem away_eq {m k:Ms} (h:m.vP=k.vP):ed m=ed k:=by unfold ed;rw[h]
theorem De (m:Ms):ed (settle m)=ed m:=away_eq (xx m).2.1
theorem RwOk.act {n:Nw} {p:Ph} {w:Rw} {e:T3} (hn:NetOk n) (r:RwOk n p w) (hk:0<=e.x/\e.x<=11) (hy:0<=e.y) (hs:0<=p.m.since) (hdue:ed p.m=true->e.y < p.m.since+n.limit) (hd:et n p.m e=0) {x:Ms} (hx:x=(atP (doP p e) e.y).m) :
 RwOk n (atP (doP p e) e.y) (xW w x e.y):=by
 obtain⟨wm,ws,wo⟩:=w;obtain⟨r1,r2,r3,r4,r5,r6⟩:=r;simp only at r1 r2 r3 r4 r5 r6;subst r1 r2;have hA:ed x=ed (doP p e).m:=by rw[hx];rfl
 have hS:x.vG=(doP p e).m.vG:=by rw[hx];rfl
 have hI:(atP (doP p e) e.y).m.since=(doP p e).m.since:=rfl;have hW:ed (atP (doP p e) e.y).m=ed (doP p e).m:=rfl;have key:(chg p.stays p.m.vG x.vG e.y=(doP p e).stays) ->
  (ed p.m=false->ed (doP p e).m=false->(doP p e).out=p.out/\(doP p e).vL=p.vL) ->
  (ed p.m=false->ed (doP p e).m=true->(doP p e).out=e.y/\(doP p e).m.since=e.y/\(doP p e).vL=p.vL) ->
  (ed p.m=true->ed (doP p e).m=true->(doP p e).out=p.out/\(doP p e).m.since=p.m.since/\(doP p e).vL=p.vL) ->
  (ed p.m=true->ed (doP p e).m=false->(doP p e).out=-1/\(doP p e).vL=kz p.out p.vL e.y) ->
  RwOk n (atP (doP p e) e.y) (xW ⟨p.m,p.stays,wo⟩ x e.y):=by
  intro k0 k1 k2 k3 k4;cases ha:ed p.m <;> cases hb:ed (doP p e).m
  . obtain⟨q1,q2⟩:=k1 ha hb;obtain⟨s1,s2⟩:=r3 ha;refine⟨hx,k0,fun _=>⟨q1.trans s1,?_⟩,fun q=>(by rw[hW,hb]at q;cases q),?_,?_⟩
    . show x6 (xW _ _ _).ouw=(doP p e).vL
      simp only[xW,ha,hA,hb,zr,and_false,false_and,qi];rw[s2,q2]
    . show (doP p e).vL<=_;omega
    . show 0<=(doP p e).vL;omega
  . obtain⟨q1,q2,q3⟩:=k2 ha hb;obtain⟨s1,s2⟩:=r3 ha;refine⟨hx,k0,fun q=>(by rw[hW,hb]at q;cases q),fun _=>⟨?_,wo,?_,?_⟩,?_,?_⟩
    . show (doP p e).out=(doP p e).m.since;omega
    . show (xW _ _ _).ouw=wo++[⟨(doP p e).out,0⟩]
      simp only[xW,ha,hA,hb,zr,ym,and_false,and_true,false_and,and_self,qi,qj];rw[q1]
    . show x6 wo=(doP p e).vL
      rw[s2,q3]
    . show (doP p e).vL<=_;omega
    . show 0<=(doP p e).vL;omega
  . obtain⟨q1,q2⟩:=k4 ha hb;obtain⟨s1,l,s2,s3⟩:=r4 ha;have hbk:=Cj (o:=p.out) (l:=p.vL) (t:=e.y) (by omega);have hdd:=hdue ha;refine⟨hx,k0,fun _=>⟨q1,?_⟩,fun q=>(by rw[hW,hb]at q;cases q),?_,?_⟩
    . show x6 (xW _ _ _).ouw=(doP p e).vL
      simp only[xW,ha,hA,hb,zr,ym,and_false,and_true,false_and,and_self,qi,qj];rw[s2,BM,BO,s3,q2,hbk]
    . show (doP p e).vL<=_;rw[q2,hbk];omega
    . show 0<=(doP p e).vL;rw[q2,hbk];omega
  . obtain⟨q1,q2,q3⟩:=k3 ha hb;obtain⟨s1,l,s2,s3⟩:=r4 ha;refine⟨hx,k0,fun q=>(by rw[hW,hb]at q;cases q),fun _=>⟨?_,l,?_,?_⟩,?_,?_⟩
    . show (doP p e).out=(doP p e).m.since;omega
    . show (xW _ _ _).ouw=l++[⟨(doP p e).out,0⟩]
      simp only[xW,ha,hA,hb,zr,ym,and_false,and_true,false_and,and_self,qi,qj];rw[s2,q1]
    . show x6 l=(doP p e).vL
      rw[s3,q3]
    . show (doP p e).vL<=_;omega
    . show 0<=(doP p e).vL;omega
 by_cases h10:e.x=10
 . have h3:p.m.vP=3:=by
    unfold et at hd;simp only[h10,Int.reduceEq,qj,qi]at hd;rcases qh (p.m.vP=3)with q | q
    . exact q
    . rw[qb q]at hd;cases hd
   have hD:doP p e=kH p e.z e.y:=by unfold doP;rw[qb h10]
   have ha:ed p.m=true:=by simp[ed,h3]
   refine key (by rw[hS,hD];rfl) (fun q=>(by rw[ha]at q;cases q)) (fun q=>(by rw[ha]at q;cases q)) (fun _ q=>(by rw[hD]at q;simp[ed,kH,iA]at q)) (fun _ _=>by rw[hD];exact⟨rfl,rfl⟩)
 . have hD:doP p e={ m:=settle (eG p.m e),recv:=if e.x=1/\(dO p.m p.m.vG).headD 0=p.m.got then p.recv++[p.m.got]else p.recv,stays:=if e.x=6 then chg p.stays p.m.vG p.m.target e.y else p.stays,out:=if e.x=5\/e.x=9 then (if p.out=-1 then e.y else p.out)else if e.x=6 then -1 else p.out,vL:=if e.x=6 then kz p.out p.vL e.y else p.vL }:=by
    unfold doP;rw[qa h10]
   have hm:(doP p e).m=settle (eG p.m e):=by rw[hD]
   have hsv:(doP p e).m.vG=(eG p.m e).vG:=by rw[hm];exact (xx _).1
   have haw:ed (doP p e).m=ed (eG p.m e):=by rw[hm];exact De _
   have hsi:(doP p e).m.since=(eG p.m e).since:=by rw[hm];exact (xx _).2.2
   have hst:(doP p e).stays=if e.x=6 then chg p.stays p.m.vG p.m.target e.y else p.stays:=by rw[hD]
   have hou:(doP p e).out=if e.x=5\/e.x=9 then (if p.out=-1 then e.y else p.out)else if e.x=6 then -1 else p.out:=by rw[hD]
   have hlo:(doP p e).vL=if e.x=6 then kz p.out p.vL e.y else p.vL:=by rw[hD]
   rw[hS,hst,hou,hlo,haw,hsi,hsv]at key;clear hD hm hst hou hlo hS hA hI hW hsv haw hsi;unfold eG at key;unfold et at hd;have hph:ed p.m=true↔p.m.vP=2\/p.m.vP=3:=by simp[ed]
   have hpf:ed p.m=false↔¬ (p.m.vP=2\/p.m.vP=3):=by rw[<- hph];simp
   have k:e.x=0\/e.x=1\/e.x=2\/e.x=3\/e.x=4\/e.x=5\/e.x=6\/e.x=7\/e.x=8\/e.x=9\/e.x=11:=by omega
   rcases k with k | k | k | k | k | k | k | k | k | k | k <;> rw[k]at hd key <;> simp only[Int.reduceEq,qj,qi,qk,false_or,or_true,or_self]at hd key
   ·
    refine key (wG _ _ _) (fun _ _=>⟨by trivial,by trivial⟩) (fun q1 q2=>absurd (q1.symm.trans q2) (by decide)) (fun _ _=>⟨by trivial,by trivial,by trivial⟩) (fun q1 q2=>absurd (q2.symm.trans q1) (by decide))
   ·
    by_cases hq:(dO p.m p.m.vG).headD 0=p.m.got
    . rw[qb hq]at key;refine key (wG _ _ _) (fun _ _=>⟨by trivial,by trivial⟩) (fun q1 q2=>absurd (q1.symm.trans q2) (by decide)) (fun _ _=>⟨by trivial,by trivial,by trivial⟩) (fun q1 q2=>absurd (q2.symm.trans q1) (by decide))
    . rw[qa hq]at key;refine key (wG _ _ _) (fun _ _=>⟨by trivial,by trivial⟩) (fun q1 q2=>absurd (q1.symm.trans q2) (by decide)) (fun _ _=>⟨by trivial,by trivial,by trivial⟩) (fun q1 q2=>absurd (q2.symm.trans q1) (by decide))
   ·
    refine key (wG _ _ _) (fun _ _=>⟨by trivial,by trivial⟩) (fun q1 q2=>absurd (q1.symm.trans q2) (by decide)) (fun _ _=>⟨by trivial,by trivial,by trivial⟩) (fun q1 q2=>absurd (q2.symm.trans q1) (by decide))
   ·
    have h0:p.m.vP=0:=by
     rcases qh (p.m.vP=0)with q | q
     . exact q
     . rw[qb q]at hd;cases hd
    refine key (wG _ _ _) (fun _ _=>⟨by trivial,by trivial⟩) (fun _ q2=>by simp[ed]at q2) (fun q=>(by rw[hph]at q;omega)) (fun q=>(by rw[hph]at q;omega))
   ·
    have h0:p.m.vP=1:=by
     rcases qh (p.m.vP=1)with q | q
     . exact q
     . rw[qb q]at hd;cases hd
    refine key (wG _ _ _) (fun _ _=>⟨by trivial,by trivial⟩) (fun _ q2=>by simp[ed]at q2) (fun q=>(by rw[hph]at q;omega)) (fun q=>(by rw[hph]at q;omega))
   ·
    have h0:p.m.vP=1:=by
     rcases qh (p.m.vP=1)with q | q
     . exact q
     . rw[qb q]at hd;cases hd
    refine key (wG _ _ _) (fun _ q=>by simp[ed]at q) (fun q _=>⟨by rw[qb (r3 q).1],by trivial,by trivial⟩) (fun q=>(by rw[hph]at q;omega)) (fun q=>(by rw[hph]at q;omega))
   ·
    have h0:p.m.vP=2:=by
     rcases qh (p.m.vP=2)with q | q
     . exact q
     . rw[qb q]at hd;cases hd
    refine key (by trivial) (fun q=>(by rw[hpf]at q;omega)) (fun q=>(by rw[hpf]at q;omega)) (fun _ q=>by simp[ed]at q) (fun _ _=>⟨by trivial,by trivial⟩)
   ·
    refine key (wG _ _ _) (fun _ _=>⟨by trivial,by trivial⟩) (fun q1 q2=>absurd (q1.symm.trans q2) (by decide)) (fun _ _=>⟨by trivial,by trivial,by trivial⟩) (fun q1 q2=>absurd (q2.symm.trans q1) (by decide))
   ·
    refine key (wG _ _ _) (fun _ _=>⟨by trivial,by trivial⟩) (fun q1 q2=>absurd (q1.symm.trans q2) (by decide)) (fun _ _=>⟨by trivial,by trivial,by trivial⟩) (fun q1 q2=>absurd (q2.symm.trans q1) (by decide))
   ·
    have h3:p.m.vP≠3:=fun q=>by rw[qb q]at hd;cases hd
    refine key (wG _ _ _) (fun _ q=>by simp[ed]at q) (fun q _=>⟨by rw[qb (r3 q).1],?_,by trivial⟩) (fun q _=>⟨?_,?_,by trivial⟩) (fun _ q=>by simp[ed]at q)
    . rw[hpf]at q;show (if p.m.vP=2 then p.m.since else e.y)=e.y
      rw[qa (by omega)]
    . have:=(r4 q).1;rw[qa (by omega)]
    . rw[hph]at q;show (if p.m.vP=2 then p.m.since else e.y)=p.m.since
      rw[qb (by omega)]
   ·
    refine key (wG _ _ _) (fun _ _=>⟨by trivial,by trivial⟩) (fun q1 q2=>absurd (q1.symm.trans q2) (by decide)) (fun _ _=>⟨by trivial,by trivial,by trivial⟩) (fun q1 q2=>absurd (q2.symm.trans q1) (by decide))
abbrev t0 : T3:=⟨0,0,0⟩
structure Chn (n:Nw) (l:List T3) (c t:Int):Prop where
 ne:0 < l.length
 last:(l.getD (l.length - 1) t0).x=c/\(l.getD (l.length - 1) t0).y<=t
 cell:∀ i,i < l.length->isC n (l.getD i t0).x=true/\0<=(l.getD i t0).y/\(l.getD i t0).y<=t
 nxw:∀ i,i+1 < l.length->(l.getD i t0).y<=(l.getD i t0).z/\(l.getD i t0).z=(l.getD (i+1) t0).y/\(l.getD (i+1) t0).x≠(l.getD i t0).x
theorem Chn.later {n:Nw} {l:List T3} {c t u:Int} (h:Chn n l c t) (hu:t<=u):Chn n l c u:=
 ⟨h.ne,⟨h.last.1,by have:=h.last.2;omega⟩,fun i hi=>by have:=h.cell i hi;exact⟨this.1,this.2.1,by omega⟩,h.nxw⟩
theorem Es (l:List T3) (i j:Nat) (v:T3):(l.set i v).getD j t0=if i=j/\j < l.length then v else l.getD j t0:=by
 rw[zb,zb,zJ];by_cases h:i=j
 . subst h;by_cases h2:i < l.length
   . simp[h2]
   . simp[h2]
 . simp[h]
theorem DI (l:List T3) (j:Nat) (v:T3):(l++[v]).getD j t0=if j < l.length then l.getD j t0 else if j=l.length then v else t0:=by
 rw[zb,zb,zS];by_cases h:j < l.length
 . rw[qb h,qb h]
 . rw[qa h,qa h];by_cases h2:j=l.length
   . subst h2;simp
   . rw[qa h2];have:j - l.length=(j - l.length - 1)+1:=by omega
     rw[this];simp
theorem DN (l:List T3) (t:Int) (j:Nat):(jv l t).getD j t0=if j=l.length - 1/\j < l.length then ⟨(l.getD j t0).x,(l.getD j t0).y,t⟩else l.getD j t0:=by
 unfold jv;rw[Es];by_cases h:l.length - 1=j/\j < l.length
 . rw[qb h,qb ⟨h.1.symm,h.2⟩,<- h.1]
 . rw[qa h,qa (fun q=>h ⟨q.1.symm,q.2⟩)]
theorem Chn.chg {n:Nw} {l:List T3} {c d t:Int} (h:Chn n l c t) (ht:0<=t) (hd:isC n d=true):Chn n (chg l c d t) d t:=by
 unfold Go.Proofs.YtcbabnbiinkafaaGreatDoor.chg;by_cases hcd:c=d
 . rw[qb hcd];subst hcd;exact h
 rw[qa hcd];have hne:=h.ne;have hl:(jv l t).length=l.length:=uF l t;have hg:∀ j,(jv l t++[(⟨d,t,0⟩:T3)]).getD j t0=if j < l.length then (if j=l.length - 1 then ⟨(l.getD j t0).x,(l.getD j t0).y,t⟩else l.getD j t0)else if j=l.length then (⟨d,t,0⟩:T3)else t0:=fun j=>by
  rw[DI,hl,DN];by_cases h1:j < l.length
  . rw[qb h1,qb h1];by_cases h2:j=l.length - 1
    . rw[qb ⟨h2,h1⟩,qb h2]
    . rw[qa (fun q=>h2 q.1),qa h2]
  . rw[qa h1,qa h1]
 have hlen:(jv l t++[(⟨d,t,0⟩:T3)]).length=l.length+1:=by simp[hl]
 refine⟨by omega,?_,fun i hi=>?_,fun i hi=>?_⟩
 . rw[hlen,hg,Nat.add_sub_cancel,qa (by omega),qb rfl];exact⟨rfl,Int.le_refl _⟩
 . rw[hg];by_cases h1:i < l.length
   . rw[qb h1];have hc:=h.cell i h1;by_cases h2:i=l.length - 1
     . rw[qb h2];exact hc
     . rw[qa h2];exact hc
   . rw[qa h1,qb (by omega)];exact⟨hd,ht,Int.le_refl _⟩
 . rw[hg,hg];by_cases h2:i=l.length - 1
   . have h1:i < l.length:=by omega
     rw[qb h1,qb h2,qa (by omega),qb (by omega)];have hla:=h.last;rw[<- h2]at hla;refine⟨hla.2,rfl,?_⟩;show d≠(l.getD i t0).x
     rw[hla.1];exact fun q=>hcd q.symm
   . have h1:i < l.length:=by omega
     have h3:i+1 < l.length:=by omega
     have hn:=h.nxw i h3;rw[qb h1,qa h2,qb h3];by_cases h4:i+1=l.length - 1
     . rw[qb h4];exact hn
     . rw[qa h4];exact hn
theorem Chn.begin {n:Nw} {c:Int} (hc:isC n c=true):Chn n [⟨c,0,0⟩] c 0:=
 ⟨by simp,⟨rfl,Int.le_refl _⟩,fun i hi=>by
  have:i=0:=by simpa using hi
  subst this;exact⟨hc,Int.le_refl _,Int.le_refl _⟩,fun i hi=>by simp at hi⟩
theorem Chn.pass {n:Nw} {p:Ph} (hn:NetOk n) (g:dN n p.m) (h:Chn n p.stays p.m.vG p.m.at_) {t:Int} (ht:p.m.at_<=t):Chn n (eJ n p t).stays (eJ n p t).m.vG t:=by
 unfold eJ;by_cases hp:jt n p.m t=true
 . rw[qb hp];have hq:=hp;simp only[jt,zm,qf]at hq;have hdue:=g.due hq.1;have hsi:=g.since;have hli:=hn.lim;have hz:isC n 0=true:=by simp only[isC,qf];have:=hn.len;omega
   exact ((h.later (u:=p.m.since+n.limit) (by omega)).chg (by omega) hz).later hq.2
 . rw[qa hp];exact h.later ht
theorem Chn.doP {n:Nw} {p:Ph} {e:T3} (g:p.m.vP=2->isC n p.m.target=true) (h:Chn n p.stays p.m.vG e.y) (h0:0<=e.y) (hev:evE n e=0) (hd:et n p.m e=0):Chn n (doP p e).stays (doP p e).m.vG e.y:=by
 obtain⟨hx,hy,hcz⟩:=ev_ok hev;unfold Go.Proofs.YtcbabnbiinkafaaGreatDoor.doP;by_cases h10:e.x=10
 . rw[qb h10];exact h.chg h0 (hcz (by simp[iy,h10]))
 rw[qa h10];have hs:(settle (eG p.m e)).vG=(eG p.m e).vG:=(xx _).1;by_cases h6:e.x=6
 . have h2:p.m.vP=2:=by
    unfold et at hd;simp only[h6,Int.reduceEq,qj,qi]at hd;rcases qh (p.m.vP=2)with q | q
    . exact q
    . rw[qb q]at hd;cases hd
   have e1:(eG p.m e).vG=p.m.target:=by unfold eG;simp only[h6,Int.reduceEq,qj,qi]
   show Chn n (if e.x=6 then _ else _) (settle (eG p.m e)).vG e.y
   rw[qb h6,hs,e1];exact h.chg h0 (g h2)
 . have e1:(eG p.m e).vG=p.m.vG:=by
    unfold eG;simp only[h6,qi]
    repeat' split
    all_goals rfl
   show Chn n (if e.x=6 then _ else _) (settle (eG p.m e)).vG e.y
   rw[qa h6,hs,e1];exact h
structure All (n:Nw) (p:Ph) (w:Rw):Prop where
 g:dN n p.m
 r:RwOk n p w
 c:Chn n p.stays p.m.vG p.m.at_
theorem All.begin {n:Nw} (hn:NetOk n) {c:Int} (hc:isC n c=true):All n (gk n c) (BA n c):=⟨dN.begin hn hc,.begin hn c,.begin hc⟩
theorem All.apply {n:Nw} {p:Ph} {w:Rw} {e:T3} (hn:NetOk n) (a:All n p w) (h:fY n p.m e=0):All n (km n p e) (EI n w e):=by
 have hev:=rO h;obtain⟨hx,hy,hcz⟩:=ev_ok hev;have hE:=h;rw[fY,qa (by simp[hev]),qw]at hE;have hat:p.m.at_<=e.y:=by
  rcases qh (e.y < p.m.at_)with q | q
  . rw[qb q]at hE;cases hE
  . omega
 rw[qa (by omega)]at hE;have G:dN n (kW n p.m e.y):=a.g.pass hn hat hy.2;have hq:kW n p.m e.y=(atP (eJ n p e.y) e.y).m:=by
  show _=({ (eJ n p e.y).m with at_:=e.y }:Ms)
  rw[ou];rfl
 have hd:et n (eJ n p e.y).m e=0:=by
  rw[<- hE,hq];rfl
 have r1:=a.r.pass hn a.g.since.1 e.y;have c1:=a.c.pass hn a.g hat;have G':dN n (atP (eJ n p e.y) e.y).m:=hq ▸ G;refine⟨by rw[qD];exact a.g.apply hn h,?_,?_⟩
 . refine RwOk.act hn r1 hx hy.1 G'.since.1 (fun q=>?_) hd ?_
   . exact G'.due q
   . rw[a.r.m];exact (qD n p e).symm
 . exact Chn.doP (p:=eJ n p e.y) (fun h2=>G'.tgt (fun q=>(G'.f2 q).2 h2)) c1 hy.1 hev hd
theorem All.steps {n:Nw} (hn:NetOk n):∀ (l:List T3) (p:Ph) (w:Rw) (i:Int),All n p w->(iG n p.m l i).2=0->All n (jj n p l) (Dx n w l)
 |[],p,w,i,a,_=>a
 | e :: l,p,w,i,a,h=>by
  rw[iG]at h;by_cases h0:fY n p.m e=0
  . rw[qb h0,<- qD]at h;exact All.steps hn l _ _ (i+1) (a.apply hn h0) h
  . rw[qa h0]at h;exact absurd h h0
theorem PhK.steps {n:Nw}:∀ (l:List T3) (p:Ph) (i:Int) (k:Nat),PhK k p->(iG n p.m l i).2=0->PhK (k+l.length) (jj n p l)
 |[],p,i,k,a,_=>a
 | e :: l,p,i,k,a,h=>by
  rw[iG]at h;by_cases h0:fY n p.m e=0
  . rw[qb h0,<- qD]at h;have:=PhK.steps l _ (i+1) (k+1) (a.apply (n:=n) (e:=e) (ev_ok (rO h0)).2.1) h;rw[zQ];rwa[yG,Nat.add_comm 1]at this
  . rw[qa h0]at h;exact absurd h h0
theorem AF (n:Nw):∀ (l:List T3) (m:Ms) (i:Int),(iG n m l i).2=0->iG n m l i=(0,0)
 |[],m,i,h=>rfl
 | e :: l,m,i,h=>by
  rw[iG]at h ⊢;by_cases h0:fY n m e=0
  . rw[qb h0]at h ⊢;exact AF n l _ _ h
  . rw[qa h0]at h;exact absurd h h0
def upL (a:Int):Nat->List Int
 | 0=>[]
 | k+1=>a :: upL (a+1) k
theorem CC (m:Ms):(settle m).fresh=m.fresh:=by
 unfold Go.Proofs.YtcbabnbiinkafaaGreatDoor.settle;split <;> rfl
theorem Dc (n:Nw) (m:Ms) (t:Int):(p8 n m t).fresh=m.fresh:=by unfold p8;split <;> rfl
theorem Db (n:Nw) (m:Ms) (e:T3):(qE n m e).fresh=m.fresh+(if e.x=0 then 1 else 0):=by
 unfold qE;have h1:(kW n m e.y).fresh=m.fresh:=Dc n m e.y;generalize kW n m e.y=q at *;rw[<- h1];unfold jT;by_cases h10:e.x=10
 . rw[qb h10,h10];simp[iA]
 . rw[qa h10,CC];unfold eG;by_cases h:e.x=0
   . simp only[h,qj]
   . simp only[h,qi]
     repeat' split
     all_goals simp
theorem Et (n:Nw) (m:Ms) (e:T3):(qE n m e).got=m.got\/(qE n m e).got=m.got+1:=by
 unfold qE;have h1:(kW n m e.y).got=m.got:=BK n m e.y;generalize kW n m e.y=q at *;rw[<- h1];unfold jT;by_cases h10:e.x=10
 . rw[qb h10];exact .inl rfl
 . rw[qa h10,Bi,Dn];split
   . exact .inr rfl
   . exact .inl rfl
def Al : List T3->Int
 |[]=>0
 | e :: l=>(if e.x=0 then 1 else 0)+Al l
theorem Dw (n:Nw):∀ (l:List T3) (m:Ms),∃ k:Nat,Aj n m l=upL m.got k/\(l.foldl (qE n) m).got=m.got+k/\(l.foldl (qE n) m).fresh=m.fresh+Al l
 |[],m=>⟨0,rfl,by simp,by simp[Al]⟩
 | e :: l,m=>by
  obtain⟨k,h1,h2,h3⟩:=Dw n l (qE n m e);have hf:=Db n m e;rcases Et n m e with h | h
  . refine⟨k,?_,?_,?_⟩
    . rw[Aj,h1,h,qa (by omega)];rfl
    . rw[List.foldl_cons,h2,h]
    . rw[List.foldl_cons,h3,hf,Al];omega
  . refine⟨k+1,?_,?_,?_⟩
    . rw[Aj,h1,h,qb (by omega)];rfl
    . rw[List.foldl_cons,h2,h];push_cast;omega
    . rw[List.foldl_cons,h3,hf,Al];omega
theorem Bf (n:Nw) (c:Int) (l:List T3):(lu n c l).m=l.foldl (qE n) (eM n c):=by
 have key:∀ (l:List T3) (p:Ph),(jj n p l).m=l.foldl (qE n) p.m:=by
  intro l
  induction l with
  | nil=>intro p;rfl
  | cons e l ih=>intro p;rw[jj,ih,qD];rfl
 exact key l _
theorem Fe {n:Nw} (hn:NetOk n) {c:Int} (hc:isC n c=true) (l:List T3) (h:(iG n (eM n c) l 0).2=0) :
 dN n (lu n c l).m/\(lu n c l).recv=upL 0 (lu n c l).m.got.toNat/\(lu n c l).m.fresh=Al l:=by
 have a:=All.steps hn l (gk n c) (BA n c) 0 (All.begin hn hc) h;have hr:(lu n c l).recv=Aj n (eM n c) l:=by
  show (jj n (gk n c) l).recv=_
  rw[Bn];simp[gk]
 obtain⟨k,h1,h2,h3⟩:=Dw n l (eM n c);have e0:(eM n c).got=0:=rfl;have e1:(eM n c).fresh=0:=rfl;refine⟨a.g,?_,?_⟩
 . rw[hr,h1,Bf,h2,e0]
   congr 1;omega
 . rw[Bf,h3,e1];omega
def wO (f:FuncId) (as0:List C) (r:C) (k:Nat) (c:Ch) (hr:dG [k] r) (hc:gd [k] c) (h:FC Tryz.prog f as0 [] r [(k,c)]):Ent Tryz.prog:=.mk3 f (fun args chs=>some (args=as0/\chs=[],r,[(k,c)],[k])) (by
 intro args chs pp r' chs' nk hs hq;simp only[zn,zf]at hs;obtain⟨rfl,rfl,rfl,rfl⟩:=hs;obtain⟨rfl,rfl⟩:=hq;refine⟨h,⟨fun k' c' hm=>.inl ?_,fun k cs hm=>(by simp at hm),hr,fun k' c' hm=>?_⟩⟩
 . simp only[zg,zf]at hm ⊢;exact hm.1
 . simp only[zg,zf]at hm;obtain⟨rfl,rfl⟩:=hm
   exact hc)
theorem DA (l:List Int) (h:l.length<=1000000):FC Tryz.prog 24 [enc l] [] (.own 3) [(3,.row 1 3 (l.map Dat.cells))]:=by
 refine dD [3] is24 (by simp) (by simp[bn]) (by simp[ap,ag]) (by simp[ap,ag,av]) (by simp[aC,lk]) (fun cx _ hl _=>dC [] 800 ?_);delta c24 oO oA oM oX o1;simp only[rv24,InR,WU,V,W3,seval];omega
def Bh (l:List Int) (h:l.length<=1000000):Ent Tryz.prog:=wO 24 [enc l] (.own 3) 3 (.row 1 3 (l.map Dat.cells)) (by simp[dG]) (by simp[gd]) (DA l h)
structure BufS (b:List (List Int)):Prop where
 l:b.length<=1000000
 r:∀ x∈b,x.length<=1000000
theorem Aw (b:List (List Int)) (h:BufS b):FC Tryz.prog 60 [enc b] [] (.own 3) [(3,.deep 1 3 24 none (fB b))]:=by
 have h1:=h.l;refine dD [3] D7.is60 (by simp) (by simp[bn]) (by simp[ap,ag]) (by simp[ap,ag,av]) (by simp[aC,lk]) (fun cx _ hl _=>dC [] 800 ?_);delta D7.c60 oA oM oS oK oV oX;simp only[D7.rv60,InR,WU,V,W3,seval];refine⟨by simp,?_⟩;refine fH b.length (fun i=>[(4,.s (.int .i64 (i:Int)))]) (fun i=>[(3,.deep 1 3 24 none (fB (b.take i)))]) (fun _=>True) trivial ?_ (fun i hi _=>?_)
 . simp only[V,W3,seval]
   all_goals rfl
 . by_cases hlt:i < b.length
   . have hi2:(i:Int) < (b.length:Int):=by omega
     have hi0:(0:Int)<=i:=by omega
     have hgx:List.getD (b.map Dat.cells) i [C.sl 0 []]=[C.sl 1 ((b.getD i []).map Dat.cells)]:=by
      rw[zb,zb,zh,ze hlt];rfl
     have hx:=h.r _ (yy hlt);have hgd:b.getD i []=b[i]:=by rw[zb,ze hlt];rfl
     have hap:fB (b.take i)++[(b.getD i []).map Dat.cells]=fB (b.take (i+1)):=by
      rw[hgd,yI hlt,fB,fB,yg];rfl
     have hlen:(b.take i).length=i:=by rw[qp];omega
     rw[<- hgd]at hx;refine dC [Bh (b.getD i []) hx] 800 ?_;delta D7.c60l1 oO oN oA oM oR oS oK oL oC oX oB o0 o4;simp only[Bh,wO,hi0,hi2,hlt,hgx,hap,eo,hlen,InR,WU,V,W3,seval];omega
   . have hi2:¬ (i:Int) < (b.length:Int):=by omega
     have htk:b.take i=b:=qo (by omega);refine dC [] 800 ?_;delta D7.c60l1 oO oN oA oM oR oS oK oL oC oX oB o0 o4;simp only[D7.rv60,hi2,htk,WU,V,W3,seval]
def El (b:List (List Int)) (h:BufS b):Ent Tryz.prog:=wO 60 [enc b] (.own 3) 3 (.deep 1 3 24 none (fB b)) (by simp[dG]) (by simp[gd]) (Aw b h)
def msA (m:Ms) (k:Nat):C:=.agg (msC m k)
theorem AR (m:Ms) (k:Nat):dG [k] (msA m k):=by simp[msA,msC,dG,dG.keysIns]
theorem Copy_o (m:Ms) (h:BufS m.buf):FC Tryz.prog 65 [enc m] [] (msA m 5) [(5,.deep 1 3 24 none (fB m.buf))]:=by
 refine dD [5] D7.is65 (by simp) (by simp[bn]) (by simp[ap,ag]) (by simp[ap,ag,av]) (by simp[aC,lk]) (fun cx _ hl _=>dC [El m.buf h] 800 ?_);delta D7.c65 oO oA oF oL oC oW oX oZ o5 o7;simp only[D7.rv65,El,wO,qT,msA,msC,InR,WU,V,W3,seval]
def Ab (m:Ms) (h:BufS m.buf):Ent Tryz.prog:=wO 65 [enc m] (msA m 5) 5 (.deep 1 3 24 none (fB m.buf)) (AR m 5) (by simp[gd]) (Copy_o m h)
theorem Raway_c (m:Ms):FC Tryz.prog 112 [enc m] [] (enc (ed m)) []:=by
 refine dD [] is112 (by simp) trivial trivial trivial trivial (fun cx _ hl _=>dC [] 800 ?_);by_cases h1:m.vP=2 <;> by_cases h2:m.vP=3
 all_goals
  delta c112 oO oN oM oG oF oL oX oH oB oE oJ o7 o9;simp only[rv112,qT,ed,h1,h2,WU,V,W3,seval]
def wX : Ent Tryz.prog:=.of1 112 (fun _=>True) (fun m:Ms=>enc (ed m)) (fun _=>trivial) (fun m _=>Raway_c m)
theorem EN (l:List Int) (g:Int) (h:l.length<=1000000):FC Tryz.prog 164 [enc l,enc g] [] (.own 5) [(5,.row 1 3 ((frm l g).map Dat.cells))]:=by
 refine dD [5] D7.is164 (by simp) (by simp[bn]) (by simp[ap,ag]) (by simp[ap,ag,av]) (by simp[aC,lk]) (fun cx _ hl _=>dC [] 800 ?_);delta D7.c164 oA oM oS oK oV oX;simp only[D7.rv164,InR,WU,V,W3,seval];refine fH l.length (fun i=>[(6,.s (.int .i64 (i:Int)))]) (fun i=>[(5,.row 1 3 ((frm (l.take i) g).map Dat.cells))]) (fun _=>True) trivial ?_ (fun i hi _=>?_)
 . simp only[V,W3,seval]
   all_goals rfl
 . by_cases hlt:i < l.length
   . have hi2:(i:Int) < (l.length:Int):=by omega
     have hi0:(0:Int)<=i:=by omega
     have hgd:l.getD i 0=l[i]:=by rw[zb,ze hlt];rfl
     have hf:frm (l.take (i+1)) g=frm (l.take i) g++(if g<=l.getD i 0 then [l.getD i 0]else []):=by
      rw[hgd,yI hlt,frm,frm,List.filter_append];by_cases hg:g<=l[i] <;> simp[hg]
     have hfl:(frm (l.take i) g).length<=i:=by
      refine z6 (List.length_filter_le _ _) ?_;rw[qp];omega
     refine dC [] 800 ?_;delta D7.c164l1 oO oN oA oM oR oS oK oL oI oX oB o1 o4;simp only[hi0,hi2,hlt,hf,yg,zy,InR,WU,V,W3,seval];generalize l.getD i 0=y at *;by_cases hg:g<=y
     . rw[qb hg,qb hg];exact⟨by omega,by omega,by omega,rfl⟩
     . rw[qa hg,qa hg,zR,z4];exact⟨by omega,by omega,rfl⟩
   . have hi2:¬ (i:Int) < (l.length:Int):=by omega
     have htk:l.take i=l:=qo (by omega);refine dC [] 800 ?_;delta D7.c164l1 oO oN oA oM oR oS oK oL oI oX oB o1 o4;simp only[D7.rv164,hi2,htk,WU,V,W3,seval]
def Ao (l:List Int) (g:Int) (h:l.length<=1000000):Ent Tryz.prog:=wO 164 [enc l,enc g] (.own 5) 5 (.row 1 3 ((frm l g).map Dat.cells)) (by simp[dG]) (by simp[gd]) (EN l g h)
theorem EE (l:List Int) (n:Int) (i:Nat) (h:i < l.length->¬ l.getD i 0 < n):fR (l.drop i) n=n :: l.drop i:=by
 by_cases hi:i < l.length
 . rw[fI 0 hi,fR,qa (h hi)]
 . rw[zv (by omega)];rfl
theorem put_o (l:List Int) (n:Int) (h:l.length<=1000000):FC Tryz.prog 163 [enc l,enc n] [] (.own 5) [(5,.row 1 3 ((fR l n).map Dat.cells))]:=by
 generalize hR:fR l n=R;refine dD [5,31,35] D7.is163 (by simp) (by simp[bn]) (by simp[ap,ag]) (by simp[ap,ag,av]) (by simp[aC,lk]) (fun cx _ hl _=>dC [] 800 ?_);delta D7.c163 oO oA oM oT oS oK oV oX o1;simp only[D7.rv163,InR,WU,V,W3,seval];refine fH l.length (fun i=>[(6,.s (.int .i64 (i:Int)))]) (fun i=>[(5,.row 1 3 ((l.take i).map Dat.cells))]) (fun i=>R=l.take i++fR (l.drop i) n) (by rw[<- hR];rfl) ?_ (fun i hi hv=>?_)
 . simp only[V,W3,seval]
   all_goals rfl
 . have hlt0:(l.take i).length=i:=by rw[qp];omega
   have hi0:(0:Int)<=i:=by omega
   have hi4:(i:Int)<=(l.length:Int):=by omega
   have htl:List.take l.length (List.map Dat.cells l)=List.map Dat.cells l:=qo (by simp);by_cases hc:i < l.length/\l.getD i 0 < n
   . obtain⟨hlt,hg⟩:=hc;have hi2:(i:Int) < (l.length:Int):=by omega
     have hd:=fI (d:=(0:Int)) hlt;have hgd:l.getD i 0=l[i]:=by rw[zb,ze hlt];rfl
     have htk:l.take (i+1)=l.take i++[l.getD i 0]:=by rw[hgd,yI hlt]
     rw[hd,fR,qb hg]at hv;refine dC [] 800 ?_;delta D7.c163l1 oO oN oA oM oG oR oS oK oL oX oP oB oD oJ o1 o4;simp only[hi0,hi2,hlt,hg,htk,hlt0,yg,zy,InR,WU,V,W3,seval];exact⟨by omega,by omega,by rw[hv];simp,by omega⟩
   . rw[EE l n i (fun q q2=>hc ⟨q,q2⟩)]at hv;have hcc:(((i:Int) < (l.length:Int))=True/\(i < l.length)=True/\(l.getD i 0 < n)=False)\/(((i:Int) < (l.length:Int))=False/\True/\True):=by
      by_cases hlt:i < l.length
      . exact .inl ⟨eq_true (by omega),eq_true hlt,eq_false fun q=>hc ⟨hlt,q⟩⟩
      . exact .inr ⟨eq_false (by omega),trivial,trivial⟩
     refine dC [] 800 ?_;rcases hcc with⟨h1,h2,h3⟩ | ⟨h1,h2,h3⟩
     all_goals
      delta D7.c163l1 oO oN oA oM oG oR oS oK oL oX oP oB oD oJ o1 o4;simp only[hi0,h1,h2,h3,hlt0,zy,qd,qc,InR,WU,V,W3,seval];refine mT [] 800 ?_;simp only[drS,kX,robC,reC,fixS,eL,AOp.reads,ke,true_or,or_true,false_or,hi0,hi4,hlt0,htl,zy,Option.toList_some,Option.toList_none,z4,yq,yb,InR,WU,V,W3,seval];refine⟨by omega,by omega,by simp;omega,by omega,dC [] 400 ?_⟩;simp only[V,W3,seval];rw[hv];simp;rfl
theorem put_c (l:List Int) (n:Int) (h:l.length<=1000000):FC Tryz.prog 163 [enc l,enc n] [] (enc (fR l n)) []:=FC.frz (put_o l n h) (x:=.sl 1 ((fR l n).map Dat.cells)) rfl
def Ei : Ent Tryz.prog:=.of2 163 (fun l _=>l.length<=1000000) (fun (l:List Int) (n:Int)=>enc (fR l n)) (fun _ _=>trivial) (fun l n h=>put_c l n h)
theorem BG (b:List (List Int)):Br (.deep 1 3 24 none (fB b)):=fun es hes e he c hc=>by
 simp only[fB,zu]at hes;obtain⟨l,_,rfl⟩:=hes;obtain⟨x,_,rfl⟩:=zu.1 he;exact⟨_,zg.1 hc⟩
structure MsS (m:Ms):Prop where
 b:BufS m.buf
 f:m.buf.flatten.length<=1000000
def xL (bs:List (List Int)) (i:Nat):List Int:=(bs.take i).flatten.foldl fR []
def xD (bs:List (List Int)) (i:Nat):List (List Int):=(bs.take i).map (fun _=>[])++bs.drop i
theorem AA (l acc:List Int):(l.foldl fR acc).length=acc.length+l.length:=by
 rw[(lE l acc).length_eq,zK]
theorem y7 (bs:List (List Int)) (i:Nat) (h:i < bs.length):(bs.take i).flatten.length+(bs.getD i []).length<=bs.flatten.length:=by
 have e:bs.flatten=(bs.take i).flatten++((bs.getD i [])++(bs.drop (i+1)).flatten):=by
  conv=>lhs;rw[<- List.take_append_drop i bs,fI [] h]
  rw[List.flatten_append,List.flatten_cons]
 rw[e,zK,zK];omega
theorem DV (bs:List (List Int)) (i:Nat) (h:i < bs.length):xL bs (i+1)=(bs.getD i []).foldl fR (xL bs i):=by
 have hgd:bs.getD i []=bs[i]:=by rw[zb,ze h];rfl
 rw[xL,xL,yI h,hgd,List.flatten_append,List.foldl_append,List.flatten_cons,List.flatten_nil,z4]
theorem DZ (bs:List (List Int)) (i:Nat) (h:i < bs.length):(xD bs i).set i []=xD bs (i+1):=by
 have hl:((bs.take i).map fun _=>([]:List Int)).length=i:=by simp;omega
 rw[xD,xD,fI [] h,List.set_append_right _ _ (by omega),hl,Nat.sub_self,List.set_cons_zero,yI h,yg,ye];rfl
theorem AM (bs:List (List Int)) (i:Nat):(xD bs i).length=bs.length:=by simp[xD];omega
theorem EX (bs:List (List Int)):xD bs bs.length=bs.map fun _=>[]:=by simp[xD]
theorem Ay (m:Ms) (c t:Int) (h:MsS m) (hc:0<=c/\c.toNat < m.buf.length):FC Tryz.prog 142 [enc m,enc c,enc t] [] (msA (iA m c t) 12) [(12,.deep 1 3 24 none (fB (iA m c t).buf))]:=by
 have h1:=h.b.l;refine dD [12] D7.is142 (by simp) (by simp[bn]) (by simp[ap,ag]) (by simp[ap,ag,av]) (by simp[aC,lk]) (fun cx _ hl _=>dC [Ab m h.b] 800 ?_);delta D7.c142 oO oN oA oM oT oS oK oF oL oV oC oW oY oX o0 oZ o5 o7;simp only[D7.rv142,Ab,wO,qT,msA,msC,InR,WU,V,W3,seval];have hcl:c < (m.buf.length:Int):=by omega
 refine fH m.buf.length (fun i=>[(8,enc (xL m.buf i)),(9,.s (.int .i64 (i:Int)))]) (fun i=>[(12,.deep 1 3 24 none (fB (xD m.buf i)))]) (fun _=>True) trivial ?_ (fun i hi _=>dC [] 800 ?_)
 . simp only[xD,xL,List.take_zero,yB,zR,yb,List.flatten_nil,List.foldl_nil,V,W3,seval]
   all_goals rfl
 . by_cases hlt:i < m.buf.length
   . have hi2:(i:Int) < (m.buf.length:Int):=by omega
     have hi0:(0:Int)<=i:=by omega
     have hgx:List.getD (m.buf.map Dat.cells) i [C.sl 0 []]=[C.sl 1 ((m.buf.getD i []).map Dat.cells)]:=by
      rw[zb,zb,zh,ze hlt];rfl
     have hfl:=y7 m.buf i hlt;have hA:(xL m.buf i).length=(m.buf.take i).flatten.length:=by rw[xL,AA];simp
     have hff:=h.f;have has:=DV m.buf i hlt;have hcs:=DZ m.buf i hlt;have hst:(fB (xD m.buf i)).set i []=fB (xD m.buf (i+1)):=by rw[<- hcs];exact jD _ i []
     delta D7.c142l2 oO oN oA oM oR oS oK oF oL oV oY oX oB o0 o4;simp only[hi0,hi2,hlt,hgx,InR,WU,V,W3,seval];generalize xL m.buf i=A at *;generalize hL:m.buf.getD i []=L at *;refine fH L.length (fun k=>[(8,enc ((L.take k).foldl fR A)),(10,.s (.int .i64 (k:Int)))]) (fun k=>[]) (fun _=>True) trivial ?_ (fun k hk _=>dC [Ei] 800 ?_)
     . simp only[List.take_zero,List.foldl_nil,V,W3,seval]
       all_goals rfl
     . by_cases hkl:k < L.length
       . have hk2:(k:Int) < (L.length:Int):=by omega
         have hk0:(0:Int)<=k:=by omega
         have hle:((L.take k).foldl fR A).length<=1000000:=by rw[AA,qp];omega
         have hgd:L.getD k 0=L[k]:=by rw[zb,ze hkl];rfl
         have hnx:(L.take (k+1)).foldl fR A=fR ((L.take k).foldl fR A) (L.getD k 0):=by
          rw[hgd,yI hkl,List.foldl_append];rfl
         delta D7.c142l1 oO oN oA oM oR oS oK oF oL oC oX oB o0 o1 o4;simp only[Ei,hi0,hi2,hlt,hgx,hk0,hk2,hkl,hle,hnx,InR,WU,Ent.of2,V,W3,seval];omega
       . have hke:k=L.length:=by omega
         subst hke;have hk2:¬ ((L.length:Nat):Int) < (L.length:Int):=by omega
         delta D7.c142l1 oO oN oA oM oR oS oK oF oL oC oX oB o0 o1 o4;simp only[hi0,hi2,hlt,hgx,hk2,eo,AM,hst,yo,has,InR,WU,V,W3,seval];refine oh rfl (OpM.nilled 99 1 3 (by decide) (.f (by simp[ai,CO,CG,aq,gt,lk,af,ae,ah,bF];rfl) (by simp[eo,AM];omega))) (fun ef he=>?_);subst he;refine pW [] 800 ?_;simp only[a6,bF,eo,AM,hst,has,hlt,InR,WU,V,W3,seval];omega
   . have hie:i=m.buf.length:=by omega
     subst hie;have hi2:¬ ((m.buf.length:Nat):Int) < (m.buf.length:Int):=by omega
     have hall:xL m.buf m.buf.length=mrg m.buf:=by rw[xL,yo];rfl
     have hml:(mrg m.buf).length<=1000000:=by rw[(kS m.buf).length_eq];exact h.f
     have hst:=jD (m.buf.map fun _=>[]) c.toNat (frm (mrg m.buf) m.got);have hbl:(fB (m.buf.map fun _=>[])).length=m.buf.length:=by rw[eo,zy]
     rw[EX,hall];obtain⟨hc0,hc2⟩:=hc;delta D7.c142l2 oO oN oA oM oR oS oK oF oL oV oY oX oB o0 o4;simp only[hi2,InR,WU,V,W3,seval];refine mT [Ao (mrg m.buf) m.got hml] 800 ?_;simp only[drS,kX,robC,reC,fixS,eL,AOp.reads,ke,true_or,or_true,false_or,Ao,wO,hc0,hc2,hcl,hbl,InR,WU,V,W3,seval];refine dC [] 600 ?_;simp only[D7.rv142,hst,iA,InR,WU,V,W3,seval]
def Dj (m:Ms) (c t:Int) (h:MsS m) (hc:0<=c/\c.toNat < m.buf.length):Ent Tryz.prog:=wO 142 [enc m,enc c,enc t] (msA (iA m c t) 12) 12 (.deep 1 3 24 none (fB (iA m c t).buf)) (AR _ 12) (by simp[gd]) (Ay m c t h hc)
def x8 (n:Nw) (m:Ms) (t:Int):Int:=if jt n m t=true then m.since+n.limit else -1
theorem Pass_o (n:Nw) (m:Ms) (t:Int) (hn:NwS n) (h:MsS m) (hl:0 < m.buf.length) (hi:ed m=true->InR .i64 (m.since+n.limit)):FC Tryz.prog 110 [enc n,enc m,enc t] [] (.tup [msA (p8 n m t) 25,enc (x8 n m t)]) [(25,.deep 1 3 24 none (fB (p8 n m t).buf))]:=by
 have hdm:=ww m;by_cases hp:jt n m t=true
 . have hq:=hp;simp only[jt,zm,qf]at hq;have hI:=hi hq.1;simp only[InR]at hI;have hP:p8 n m t=iA m 0 (m.since+n.limit):=by unfold p8;rw[qb hp]
   have hA:x8 n m t=m.since+n.limit:=by unfold x8;rw[qb hp]
   rw[hP,hA];refine dD [25] D7.is110 (by simp) (by simp[bn]) (by simp[ap,ag]) (by simp[ap,ag,av]) (by simp[aC,lk]) (fun cx _ _ _=>dC [wX] 800 ?_);delta D7.c110 oO oN oA oM oT oG oS oK oF oL oV oC oW oI oX oP oB oD oE oJ oZ o5 o7;simp only[D7.rv110,eO,qT,hdm,wX,hq,hI,InR,WU,Ent.of1,V,W3,seval];refine qC [Dj m 0 (m.since+n.limit) h ⟨by decide,by simpa using hl⟩] 800 ?_;simp only[gB,mFin2,lP,ot,ops2,ja,reM2,nR,p9,qr,l6,finM,kd,gP,g9,fX,ff,fN,fN.fixBs,fL,ndE2,ap,ag,av,aU,aE,ke,eL,a6,bF,Dj,wO,msA,msC,qT,hI,InR,WU,V,W3,seval];refine⟨rfl,dC [] 600 ?_⟩;simp only[D7.rv110,InR,WU,V,W3,seval]
 . have hP:p8 n m t=m:=by unfold p8;rw[qa hp]
   have hA:x8 n m t=-1:=by unfold x8;rw[qa hp]
   rw[hP,hA];have key:FC Tryz.prog 110 [enc n,enc m,enc t] [] (.tup [msA m 32,enc (-1:Int)]) [(32,.deep 1 3 24 none (fB m.buf))]:=by
    refine dD [32] D7.is110 (by simp) (by simp[bn]) (by simp[ap,ag]) (by simp[ap,ag,av]) (by simp[aC,lk]) (fun cx _ _ _=>dC [wX,Ab m h.b] 800 ?_);cases ha:ed m
    . delta D7.c110 oO oN oA oM oT oG oS oK oF oL oV oC oW oI oX oP oB oD oE oJ oZ o5 o7;simp only[D7.rv110,eO,qT,hdm,wX,Ab,wO,msA,msC,ha,InR,WU,Ent.of1,V,W3,seval]
    . have hI:=hi ha;simp only[InR]at hI;have hq:¬ m.since+n.limit<=t:=fun q=>hp (by simp[jt,ha,q])
      delta D7.c110 oO oN oA oM oT oG oS oK oF oL oV oC oW oI oX oP oB oD oE oJ oZ o5 o7;simp only[D7.rv110,eO,qT,hdm,wX,Ab,wO,msA,msC,ha,hI,hq,InR,WU,Ent.of1,V,W3,seval]
   exact FC.rekey key 25 rfl (BG m.buf)
theorem RevE_c (n:Nw) (e:T3) (h:NwS n):FC Tryz.prog 68 [enc n,enc e] [] (enc (evE n e)) []:=by
 have hdn:=jd n;generalize hE:evE n e=E;unfold evE at hE;refine dD [] is68 (by simp) trivial trivial trivial trivial (fun cx _ hl _=>dC [xw,xZ] 800 ?_);have htk:gc e.y=decide (0<=e.y/\e.y<=1000000000):=rfl;rw[htk]at hE;unfold iy at hE;rcases qg (0<=e.x/\e.x<=11)with h1 | h1
 rotate_left
 . simp[h1]at hE;subst hE;delta c68 oO oN oA oM oG oS oK oF oL oV oC oI oX oH oB oE oJ o5 o7;simp only[rv68,xw,eO,dV,h1,WU,Ent.of3,V,W3,seval]
 rcases qg (0<=e.y/\e.y<=1000000000)with h2 | h2
 rotate_left
 . simp[h1,h2]at hE;subst hE;delta c68 oO oN oA oM oG oS oK oF oL oV oC oI oX oH oB oE oJ o5 o7;simp only[rv68,xw,eO,dV,h1,h2,WU,Ent.of3,V,W3,seval]
 have h34:((e.x=3)=True/\True)\/((e.x=3)=False/\(e.x=10)=True)\/((e.x=3)=False/\(e.x=10)=False):=by
  by_cases q:e.x=3
  . exact .inl ⟨eq_true q,trivial⟩
  . by_cases q2:e.x=10
    . exact .inr (.inl ⟨eq_false q,eq_true q2⟩)
    . exact .inr (.inr ⟨eq_false q,eq_false q2⟩)
 rcases h34 with⟨h3,h4⟩ | ⟨h3,h4⟩ | ⟨h3,h4⟩
 rotate_left 2
 . rcases qg (e.z=0)with h6 | h6
   all_goals
    simp[h1,h2,h3,h4,h6]at hE;subst hE;delta c68 oO oN oA oM oG oS oK oF oL oV oC oI oX oH oB oE oJ o5 o7;simp only[rv68,xw,eO,dV,h1,h2,h3,h4,h6,qc,qd,WU,Ent.of3,V,W3,seval]
 all_goals
  cases h5:isC n e.z
  all_goals
   simp[h1,h2,h3,h4,h5]at hE;subst hE;delta c68 oO oN oA oM oG oS oK oF oL oV oC oI oX oH oB oE oJ o5 o7;simp only[rv68,xw,xZ,eO,dV,hdn,h,h1,h2,h3,h4,h5,qc,WU,Ent.of2,Ent.of3,V,W3,seval]
def B9 : Ent Tryz.prog:=.of2 68 (fun n _=>NwS n) (fun (n:Nw) (e:T3)=>enc (evE n e)) (fun _ _=>trivial) (fun n e h=>RevE_c n e h)
theorem Rways_c (m:Ms):FC Tryz.prog 167 [enc m] [] (.tup [enc (dU m),enc (toC m)]) []:=by
 unfold dU toC;refine dD [] is167 (by simp) trivial trivial trivial trivial (fun cx _ hl _=>dC [] 800 ?_);by_cases h1:m.vP=2
 . rw[qb h1,qb h1];delta c167 oO oN oM oT oQ oS oK oF oL oV oI oX oB o7;simp only[rv167,qT,h1,WU,V,W3,seval]
 . rw[qa h1,qa h1];delta c167 oO oN oM oT oQ oS oK oF oL oV oI oX oB o7;simp only[rv167,qT,h1,WU,V,W3,seval]
def xN : Ent Tryz.prog:=.of1 167 (fun _=>True) (fun m:Ms=>.tup [enc (dU m),enc (toC m)]) (fun _=>⟨trivial,trivial,trivial⟩) (fun m _=>Rways_c m)
def InB (m:Ms) (c:Int):Prop:=0<=c/\c.toNat < m.buf.length
theorem AL (m:Ms) (c:Int) (h:c.toNat < m.buf.length):List.getD (m.buf.map Dat.cells) c.toNat [C.sl 0 []]=[C.sl 1 ((dO m c).map Dat.cells)]:=by
 rw[zb,zh,ze h,dO,zb,ze h];rfl
theorem does_c (n:Nw) (m:Ms) (e:T3) (hn:NwS n) (h:MsS m) (hk:0<=e.x/\e.x<=11) (hs:InB m m.vG) (hf:m.vP=2\/(m.vP=0/\m.vS≠-1)->InB m (dU m)):FC Tryz.prog 152 [enc n,enc m,enc e] [] (enc (et n m e)) []:=by
 have hdn:=jd n;have hdm:=ww m;have hp1:=h.b.l;have hp2:fc m.buf<=1000000000:=by rw[mK];have:=h.f;omega
 have hp3:=sq m.buf;generalize hE:et n m e=E;unfold et at hE;obtain⟨ex,ey,ezw⟩:=e;simp only at hk hE;refine dD [] D7.is152 (by simp) trivial trivial trivial trivial (fun cx _ hl _=>dC [] 1200 ?_);have k:ex=0\/ex=1\/ex=2\/ex=3\/ex=4\/ex=5\/ex=6\/ex=7\/ex=8\/ex=9\/ex=10\/ex=11:=by omega
 rcases k with rfl | rfl | rfl | rfl | rfl | rfl | rfl | rfl | rfl | rfl | rfl | rfl <;> simp only[Int.reduceEq,qj,qi]at hE
 ·
  delta D7.c152 oO oN oM oR oS oK oF oL oV oI oX oB o7;simp only[D7.rv152,eO,qT,dV,InR,WU,V,W3,seval];refine iI (dC [Ee] 800 ?_);have hc:((60<=fc m.buf)=True/\True)\/((60<=fc m.buf)=False/\(1000000<=m.fresh)=True)\/((60<=fc m.buf)=False/\(1000000<=m.fresh)=False):=by
   rcases qg (60<=fc m.buf)with h1 | h1 <;> rcases qg (1000000<=m.fresh)with h2 | h2 <;> simp only[h1,h2] <;> simp
  rcases hc with⟨h1,h2⟩ | ⟨h1,h2⟩ | ⟨h1,h2⟩
  all_goals
   simp[h1,h2]at hE;subst hE;delta D7.c152k1 oO oN oM oG oV oC oI oX oH oB oE oJ o5;simp only[D7.rv152,Ee,eO,qT,dV,hdm,hp1,hp2,h1,h2,qc,WU,Ent.of1,V,W3,seval]
 ·
  delta D7.c152 oO oN oM oR oS oK oF oL oV oI oX oB o7;simp only[D7.rv152,eO,qT,dV,InR,WU,V,W3,seval];refine iI (dC [wX] 800 ?_);cases h1:ed m
  rotate_left
  . simp[h1]at hE;subst hE;delta D7.c152k2 oO oN oA oM oT oQ oS oK oF oL oV oC oI oX oB o0 o1 o4 o5;simp only[D7.rv152,wX,eO,qT,dV,hdm,h1,WU,Ent.of1,V,W3,seval]
  obtain⟨s0,s2⟩:=hs;have s3:m.vG < (m.buf.length:Int):=by omega
  have hg:=AL m m.vG s2;cases hb:dO m m.vG with
  | nil=>
   simp[h1,hb]at hE;subst hE;rw[hb]at hg;delta D7.c152k2 oO oN oA oM oT oQ oS oK oF oL oV oC oI oX oB o0 o1 o4 o5;simp only[D7.rv152,wX,eO,qT,dV,hdm,h1,s0,s2,s3,hg,zR,InR,WU,Ent.of1,V,W3,seval]
  | cons x l=>
   rw[hb]at hg hE;have hl0:¬ ((l.length:Int)+1=0):=by omega
   have hl1:(0:Int) < (l.length:Int)+1:=by omega
   rcases qg (m.got < x)with h2 | h2
   all_goals
    simp[h1,h2]at hE;subst hE;delta D7.c152k2 oO oN oA oM oT oQ oS oK oF oL oV oC oI oX oB o0 o1 o4 o5;simp only[D7.rv152,wX,eO,qT,dV,hdm,h1,h2,s0,s2,s3,hg,hl0,hl1,zt,zQ,yM,zy,InR,qc,qd,WU,Ent.of1,V,W3,seval]
 ·
  delta D7.c152 oO oN oM oR oS oK oF oL oV oI oX oB o7;simp only[D7.rv152,eO,qT,dV,InR,WU,V,W3,seval];refine iI (dC [wX] 800 ?_);cases h1:ed m
  all_goals
   simp[h1]at hE;subst hE;delta D7.c152k3 oO oM oC oI oX o5;simp only[D7.rv152,wX,eO,qT,dV,hdm,h1,WU,Ent.of1,V,W3,seval]
 ·
  delta D7.c152 oO oN oM oR oS oK oF oL oV oI oX oB o7;simp only[D7.rv152,eO,qT,dV,InR,WU,V,W3,seval];refine iI (dC [Ed] 800 ?_);have hc:((m.vP=0)=False/\True/\True)\/((m.vP=0)=True/\(m.vS=-1)=False/\True)\/((m.vP=0)=True/\(m.vS=-1)=True/\nbr n ezw m.vG=true)\/((m.vP=0)=True/\(m.vS=-1)=True/\nbr n ezw m.vG=false):=by
   rcases qg (m.vP=0)with h1 | h1 <;> rcases qg (m.vS=-1)with h2 | h2 <;> cases h3:nbr n ezw m.vG <;> simp only[h1,h2] <;> simp
  rcases hc with⟨h1,h2,h3⟩ | ⟨h1,h2,h3⟩ | ⟨h1,h2,h3⟩ | ⟨h1,h2,h3⟩
  all_goals
   simp[h1,h2,h3]at hE;subst hE;delta D7.c152k4 oO oN oA oM oS oK oF oL oV oC oI oX oB o5;simp only[D7.rv152,Ed,eO,qT,dV,hdn,hn,h1,h2,h3,qc,qd,WU,Ent.of3,V,W3,seval]
 ·
  delta D7.c152 oO oN oM oR oS oK oF oL oV oI oX oB o7;simp only[D7.rv152,eO,qT,dV,InR,WU,V,W3,seval];refine iI (dC [] 800 ?_);rcases qg (m.vP=1)with h1 | h1
  all_goals
   simp[h1]at hE;subst hE;delta D7.c152k5 oN oM oF oL oI oX oB;simp only[D7.rv152,eO,qT,dV,h1,qc,qd,WU,V,W3,seval]
 ·
  delta D7.c152 oO oN oM oR oS oK oF oL oV oI oX oB o7;simp only[D7.rv152,eO,qT,dV,InR,WU,V,W3,seval];refine iI (dC [] 800 ?_);rcases qg (m.vP=1)with h1 | h1
  all_goals
   simp[h1]at hE;subst hE;delta D7.c152k5 oN oM oF oL oI oX oB;simp only[D7.rv152,eO,qT,dV,h1,qc,qd,WU,V,W3,seval]
 ·
  delta D7.c152 oO oN oM oR oS oK oF oL oV oI oX oB o7;simp only[D7.rv152,eO,qT,dV,InR,WU,V,W3,seval];refine iI (dC [] 800 ?_);rcases qg (m.vP=2)with h1 | h1
  all_goals
   simp[h1]at hE;subst hE;delta D7.c152k6 oN oM oF oL oI oX oB;simp only[D7.rv152,eO,qT,dV,h1,qc,qd,WU,V,W3,seval]
 ·
  delta D7.c152 oO oN oM oR oS oK oF oL oV oI oX oB o7;simp only[D7.rv152,eO,qT,dV,InR,WU,V,W3,seval];refine iI (dC [xN] 800 ?_);by_cases hq:m.vP=2\/(m.vP=0/\m.vS≠-1)
  . obtain⟨s0,s2⟩:=hf hq;have s3:dU m < (m.buf.length:Int):=by omega
    have hg:=AL m (dU m) s2;have hq2:¬ (¬ m.vP=2/\(¬ m.vP=0\/m.vS=-1)):=fun⟨q1,q2⟩=>by
     rcases hq with q | ⟨q3,q4⟩
     . exact q1 q
     . rcases q2 with q | q
       . exact q q3
       . exact q4 q
    rw[qa hq2]at hE;have hph:((m.vP=2)=True/\True/\True)\/((m.vP=2)=False/\(m.vP=0)=True/\(m.vS=-1)=False):=by
     by_cases q:m.vP=2
     . exact .inl ⟨eq_true q,trivial,trivial⟩
     . rcases hq with q2 | ⟨q3,q4⟩
       . exact absurd q2 q
       . exact .inr ⟨eq_false q,eq_true q3,eq_false q4⟩
    cases hb:dO m (dU m)with
    | nil=>
     rw[hb]at hg hE;simp at hE;subst hE;rcases hph with⟨h1,h2,h3⟩ | ⟨h1,h2,h3⟩
     all_goals
      delta D7.c152k7 oO oN oA oM oG oS oK oF oL oV oC oI oX oP oB oD oE oJ o0 o4 o5 o8;simp only[D7.rv152,xN,eO,qT,dV,hdm,h1,h2,h3,s0,s2,s3,hg,zR,InR,qc,qd,WU,Ent.of1,V,W3,seval]
    | cons x l=>
     rw[hb]at hg hE;simp at hE;subst hE;have hl0:¬ ((l.length:Int)+1=0):=by omega
     rcases hph with⟨h1,h2,h3⟩ | ⟨h1,h2,h3⟩
     all_goals
      delta D7.c152k7 oO oN oA oM oG oS oK oF oL oV oC oI oX oP oB oD oE oJ o0 o4 o5 o8;simp only[D7.rv152,xN,eO,qT,dV,hdm,h1,h2,h3,s0,s2,s3,hg,hl0,zt,zQ,yM,zy,InR,qc,qd,WU,Ent.of1,V,W3,seval]
  . have hq2:¬ m.vP=2/\(¬ m.vP=0\/m.vS=-1):=⟨fun q=>hq (.inl q),by
     by_cases q1:m.vP=0
     . exact .inr (Classical.byContradiction fun q2=>hq (.inr ⟨q1,q2⟩))
     . exact .inl q1⟩
    rw[qb hq2]at hE;subst hE;obtain⟨h1,h2⟩:=hq2;have h1':=eq_false h1;by_cases h3:m.vP=0
    . have h4:m.vS=-1:=h2.resolve_left fun q=>q h3
      delta D7.c152k7 oO oN oA oM oG oS oK oF oL oV oC oI oX oP oB oD oE oJ o0 o4 o5 o8;simp only[D7.rv152,xN,eO,qT,dV,hdm,h1',h3,h4,qc,qd,WU,Ent.of1,V,W3,seval]
    . delta D7.c152k7 oO oN oA oM oG oS oK oF oL oV oC oI oX oP oB oD oE oJ o0 o4 o5 o8;simp only[D7.rv152,xN,eO,qT,dV,hdm,h1',h3,qc,qd,WU,Ent.of1,V,W3,seval]
 ·
  delta D7.c152 oO oN oM oR oS oK oF oL oV oI oX oB o7;simp only[D7.rv152,eO,qT,dV,InR,WU,V,W3,seval];refine iI (dC [] 800 ?_);have hc:((m.vS=-1)=True/\True/\True)\/((m.vS=-1)=False/\(m.vP=3)=True/\True)\/((m.vS=-1)=False/\(m.vP=3)=False/\(m.path=m.vG)=True)\/((m.vS=-1)=False/\(m.vP=3)=False/\(m.path=m.vG)=False):=by
   rcases qg (m.vS=-1)with h1 | h1 <;> rcases qg (m.vP=3)with h2 | h2 <;> rcases qg (m.path=m.vG)with h3 | h3 <;> simp only[h1,h2,h3] <;> simp
  rcases hc with⟨h1,h2,h3⟩ | ⟨h1,h2,h3⟩ | ⟨h1,h2,h3⟩ | ⟨h1,h2,h3⟩
  all_goals
   simp[h1,h2,h3]at hE;subst hE;delta D7.c152k8 oO oN oA oM oS oK oF oL oV oI oX oB;simp only[D7.rv152,eO,qT,dV,h1,h2,h3,qc,qd,WU,V,W3,seval]
 ·
  delta D7.c152 oO oN oM oR oS oK oF oL oV oI oX oB o7;simp only[D7.rv152,eO,qT,dV,InR,WU,V,W3,seval];refine iI (dC [] 800 ?_);rcases qg (m.vP=3)with h1 | h1
  all_goals
   simp[h1]at hE;subst hE;delta D7.c152k9 oN oM oF oL oI oX oB;simp only[D7.rv152,eO,qT,dV,h1,qc,qd,WU,V,W3,seval]
 ·
  delta D7.c152 oO oN oM oR oS oK oF oL oV oI oX oB o7;simp only[D7.rv152,eO,qT,dV,InR,WU,V,W3,seval];refine iI (dC [] 800 ?_);rcases qg (m.vP=3)with h1 | h1
  rotate_left
  . simp[h1]at hE;subst hE;delta D7.c152k10 oO oN oM oG oS oK oF oL oV oI oX oP oB oD oE oJ;simp only[D7.rv152,eO,qT,dV,h1,qc,qd,WU,V,W3,seval]
  have hc:((ezw=m.vG)=True/\True/\True)\/((ezw=m.vG)=False/\(m.target=-1)=False/\(ezw=m.target)=True)\/((ezw=m.vG)=False/\(m.target=-1)=True/\True)\/((ezw=m.vG)=False/\(m.target=-1)=False/\(ezw=m.target)=False):=by
   rcases qg (ezw=m.vG)with h1 | h1 <;> rcases qg (m.target=-1)with h2 | h2 <;> rcases qg (ezw=m.target)with h3 | h3 <;> simp only[h1,h2,h3] <;> simp
  have hd:((m.vS=-1)=True/\True)\/((m.vS=-1)=False/\(ezw=m.vS)=True)\/((m.vS=-1)=False/\(ezw=m.vS)=False):=by
   rcases qg (m.vS=-1)with h2 | h2 <;> rcases qg (ezw=m.vS)with h3 | h3 <;> simp only[h2,h3] <;> simp
  rcases hc with⟨h2,h3,h4⟩ | ⟨h2,h3,h4⟩ | ⟨h2,h3,h4⟩ | ⟨h2,h3,h4⟩
  rotate_left 2
  all_goals
   first
    | (simp[h1,h2,h3,h4]at hE
       subst hE;delta D7.c152k10 oO oN oM oG oS oK oF oL oV oI oX oP oB oD oE oJ;simp only[D7.rv152,eO,qT,dV,h1,h2,h3,h4,qc,qd,WU,V,W3,seval]
       done)
    | (rcases hd with⟨h5,h6⟩ | ⟨h5,h6⟩ | ⟨h5,h6⟩
       all_goals
        simp[h1,h2,h3,h4,h5,h6]at hE;subst hE;delta D7.c152k10 oO oN oM oG oS oK oF oL oV oI oX oP oB oD oE oJ
        simp only[D7.rv152,eO,qT,dV,h1,h2,h3,h4,h5,h6,qc,qd,WU,V,W3,seval])
 ·
  subst hE;delta D7.c152 oO oN oM oR oS oK oF oL oV oI oX oB o7;simp only[D7.rv152,eO,qT,dV,WU,V,W3,seval]
abbrev dpC (m:Ms):Ch:=.deep 1 3 24 none (fB m.buf)
theorem EJ (m:Ms) (h:m.vS≠-1->InB m m.vS):FC Tryz.prog 168 [enc m] [] (enc (settle m)) []:=by
 refine dD [] is168 (by simp) trivial trivial trivial trivial (fun cx _ _ _=>dC [] 800 ?_);by_cases h1:m.vS=-1
 . have hs:settle m=m:=by unfold Go.Proofs.YtcbabnbiinkafaaGreatDoor.settle;rw[qa (by simp[fK,h1])]
   rw[hs];delta c168 oO oN oA oM oG oR oS oK oF oL oW oY oI oX oP oB oE oJ o0 oZ o5 o7;simp only[Bq,qT,h1,qc,WU,V,W3,seval]
 . by_cases h2:m.path=m.vG
   . obtain⟨s0,s2⟩:=h h1;have s3:m.vS < (m.buf.length:Int):=by omega
     have hg:=AL m m.vS s2;cases hq:dO m m.vS with
     | nil=>
      have hs:settle m={ m with vS:=-1 }:=by unfold Go.Proofs.YtcbabnbiinkafaaGreatDoor.settle;rw[qb (by simp[fK,h1,h2,hq])]
      rw[hs];rw[hq]at hg;delta c168 oO oN oA oM oG oR oS oK oF oL oW oY oI oX oP oB oE oJ o0 oZ o5 o7;simp only[Bq,qT,h1,h2,s0,s2,s3,hg,zR,InR,qc,qd,WU,V,W3,seval]
     | cons x l=>
      have hs:settle m=m:=by unfold Go.Proofs.YtcbabnbiinkafaaGreatDoor.settle;rw[qa (by simp[fK,h1,h2,hq])]
      rw[hs];rw[hq]at hg;have hl0:¬ ((l.length:Int)+1=0):=by omega
      delta c168 oO oN oA oM oG oR oS oK oF oL oW oY oI oX oP oB oE oJ o0 oZ o5 o7;simp only[Bq,qT,h1,h2,s0,s2,s3,hg,hl0,zt,zQ,yM,zy,InR,qc,qd,WU,V,W3,seval]
   . have hs:settle m=m:=by unfold Go.Proofs.YtcbabnbiinkafaaGreatDoor.settle;rw[qa (by simp[fK,h1,h2])]
     rw[hs];delta c168 oO oN oA oM oG oR oS oK oF oL oW oY oI oX oP oB oE oJ o0 oZ o5 o7;simp only[Bq,qT,h1,h2,qc,qd,WU,V,W3,seval]
def wq : Ent Tryz.prog:=.of1 168 (fun m:Ms=>m.vS≠-1->InB m m.vS) (fun m=>enc (settle m)) (fun m=>by rw[qT];simp[dG,dG.keysIns]) (fun m h=>EJ m h)
abbrev xi (m:Ms) (e:T3) (m1:Ms):Prop:=FC Tryz.prog 153 [msA m 100000,enc e] [(100000,dpC m)] (enc (settle m1)) []
theorem wt (b:List (List Int)):(fB b).map (fun es=>[C.sl 1 es])=b.map Dat.cells:=by rw[fB,zT];rfl
theorem Dq {ch:Chs} {m:Ms} {k:Nat} (h:lk ch k=some (dpC m)):Lend ch (.agg (msC m k)) (enc m):=by
 have hx:bz (dpC m)=some (.sl 1 (m.buf.map Dat.cells)):=by rw[dpC,bz,wt]
 refine .agg rfl (fun j a b ha hb=>?_)
 match j,ha,hb with
 | 0,ha,hb=>cases ha;cases hb;exact .same _
 | 1,ha,hb=>cases ha;cases hb;exact .same _
 | 2,ha,hb=>cases ha;cases hb;exact .same _
 | 3,ha,hb=>cases ha;cases hb;exact .same _
 | 4,ha,hb=>cases ha;cases hb;exact .same _
 | 5,ha,hb=>cases ha;cases hb;exact .same _
 | 6,ha,hb=>cases ha;cases hb;exact .same _
 | 7,ha,hb=>cases ha;cases hb;exact .same _
 | 8,ha,hb=>cases ha;cases hb;exact .same _
 | 9,ha,hb=>cases ha;cases hb;exact .own h hx
theorem Bu (l:List Int):∀ e∈l.map Dat.cells,∀ c∈e,∃ v,c=C.s v:=fun e he c hc=>by
 obtain⟨x,_,rfl⟩:=zu.1 he;exact⟨_,zg.1 hc⟩
theorem done_0 (m:Ms) (y z:Int) (hi:InB m m.path) (hg:InR .i64 (m.fresh+1)) (hb1:(dO m m.path).length<=1000000) (m1:Ms) (hm:m1={ m with buf:=m.buf.set m.path.toNat (dO m m.path++[m.fresh]),fresh:=m.fresh+1 }) (hs:m1.vS≠-1->InB m1 m1.vS):xi m ⟨0,y,z⟩ m1:=by
 have hdm1:=ww m1;have hs1:=eq_true hs;refine dD [] D7.is153 (by simp) (by simp[bn]) (by simp[ap,ag,av]) (by simp[ap,ag]) (by simp[aC]) (fun cx _ _ _=>dC [] 1500 ?_);obtain⟨hi0,hi2⟩:=hi;have hi3:m.path < (m.buf.length:Int):=by omega
 have hbg:=fu m.buf m.path.toNat;rw[show m.buf.getD m.path.toNat []=dO m m.path from rfl]at hbg;have hst:=jD m.buf m.path.toNat (dO m m.path++[m.fresh]);have hap:(dO m m.path).map Dat.cells++[[C.s (.int .i64 m.fresh)]]=(dO m m.path++[m.fresh]).map Dat.cells:=by rw[yg];rfl
 simp only[InR]at hg;delta D7.c153 oO oN oA oM oT oR oS oK oF oL oC oW oY oI oX oB o0 o1 oZ o7;simp only[D7.rv153,msA,msC,dpC,dV,InR,WU,V,W3,seval];refine mT [] 800 ?_;simp only[drS,kX,robC,reC,fixS,eL,AOp.reads,ke,true_or,or_true,false_or,hi0,hi2,hi3,eo,hbg,hap,zy,InR,WU,V,W3,seval];refine⟨by omega,dC [] 600 ?_⟩;simp only[D7.rv153,hg,hst,msA,msC,dpC,InR,WU,V,W3,seval];refine iI (dC [wq] 600 ?_)
 try subst hm
 try simp only[ne_eq]at hdm1 hs1
 delta D7.c153k5 oO oC oW oX o5;simp only[D7.rv153,wq,hdm1,hs1,qT,wt,InR,WU,Ent.of1,V,W3,seval]
theorem done_1 (m:Ms) (y z:Int) (hi:InB m m.vG) (x:Int) (l:List Int) (hb:dO m m.vG=x :: l) (hg:InR .i64 (m.got+1)) (m1:Ms) (hm:m1=if x=m.got then { m with got:=m.got+1 } else m) (hs:m1.vS≠-1->InB m1 m1.vS):xi m ⟨1,y,z⟩ m1:=by
 have hdm1:=ww m1;have hs1:=eq_true hs;refine dD [] D7.is153 (by simp) (by simp[bn]) (by simp[ap,ag,av]) (by simp[ap,ag]) (by simp[aC]) (fun cx _ _ _=>dC [] 1500 ?_);obtain⟨hi0,hi2⟩:=hi;have hi3:m.vG < (m.buf.length:Int):=by omega
 have hbg:=fu m.buf m.vG.toNat;rw[show m.buf.getD m.vG.toNat []=x :: l from hb]at hbg;have hl1:(0:Int) < (l.length:Int)+1:=by omega
 simp only[InR]at hg;delta D7.c153 oO oN oA oM oT oR oS oK oF oL oC oW oY oI oX oB o0 o1 oZ o7;simp only[D7.rv153,msA,msC,dpC,dV,InR,WU,V,W3,seval];refine iI (dC [] 600 ?_);by_cases hx:x=m.got
 . subst hx;rw[qb rfl]at hm;delta D7.c153k1 oO oN oA oT oR oQ oS oK oF oL oW oI oB o0 o1;simp only[D7.rv153,hi0,hi2,hi3,hl1,hg,eo,hbg,zt,zQ,yM,zy,InR,WU,V,W3,seval]
   try refine⟨by omega,?_⟩
   refine iI (dC [wq] 600 ?_)
   try subst hm
   try simp only[ne_eq]at hdm1 hs1
   delta D7.c153k5 oO oC oW oX o5;simp only[D7.rv153,wq,hdm1,hs1,qT,wt,InR,WU,Ent.of1,V,W3,seval]
 . rw[qa hx]at hm;delta D7.c153k1 oO oN oA oT oR oQ oS oK oF oL oW oI oB o0 o1;simp only[D7.rv153,hi0,hi2,hi3,hl1,hx,eo,hbg,zt,zQ,yM,zy,InR,WU,V,W3,seval]
   try refine⟨by omega,?_⟩
   refine iI (dC [wq] 600 ?_)
   try subst hm
   try simp only[ne_eq]at hdm1 hs1
   delta D7.c153k5 oO oC oW oX o5;simp only[D7.rv153,wq,hdm1,hs1,qT,wt,InR,WU,Ent.of1,V,W3,seval]
theorem done_8 (m:Ms) (y z:Int) (m1:Ms) (hm:m1={ m with path:=m.vG }) (hs:m1.vS≠-1->InB m1 m1.vS):xi m ⟨8,y,z⟩ m1:=by
 have hdm1:=ww m1;have hs1:=eq_true hs;refine dD [] D7.is153 (by simp) (by simp[bn]) (by simp[ap,ag,av]) (by simp[ap,ag]) (by simp[aC]) (fun cx _ _ _=>dC [] 1500 ?_);delta D7.c153 oO oN oA oM oT oR oS oK oF oL oC oW oY oI oX oB o0 o1 oZ o7;simp only[D7.rv153,msA,msC,dpC,dV,InR,WU,V,W3,seval];refine iI (dC [wq] 600 ?_)
 try subst hm
 try simp only[ne_eq]at hdm1 hs1
 delta D7.c153k5 oO oC oW oX o5;simp only[D7.rv153,wq,hdm1,hs1,qT,wt,InR,WU,Ent.of1,V,W3,seval]
theorem done_9 (m:Ms) (y z:Int) (m1:Ms) (hm:m1={ m with since:=if m.vP=2 then m.since else y,vP:=3 }) (hs:m1.vS≠-1->InB m1 m1.vS):xi m ⟨9,y,z⟩ m1:=by
 have hdm1:=ww m1;have hs1:=eq_true hs;refine dD [] D7.is153 (by simp) (by simp[bn]) (by simp[ap,ag,av]) (by simp[ap,ag]) (by simp[aC]) (fun cx _ _ _=>dC [] 1500 ?_);delta D7.c153 oO oN oA oM oT oR oS oK oF oL oC oW oY oI oX oB o0 o1 oZ o7;simp only[D7.rv153,msA,msC,dpC,dV,InR,WU,V,W3,seval];refine iI (dC [] 600 ?_);by_cases h2:m.vP=2
 all_goals
  simp only[h2,qj,qi]at hm;delta D7.c153k3 oO oN oR oS oK oF oL oW oY oI oX oB;simp only[D7.rv153,h2,qc,qd,InR,WU,V,W3,seval];refine iI (dC [wq] 600 ?_)
  try subst hm
  try simp only[ne_eq]at hdm1 hs1
  delta D7.c153k5 oO oC oW oX o5;simp only[D7.rv153,wq,hdm1,hs1,qT,wt,InR,WU,Ent.of1,V,W3,seval]
theorem done_11 (m:Ms) (y z:Int) (hs:m.vS≠-1->InB m m.vS):xi m ⟨11,y,z⟩ m:=by
 have hdm1:=ww m;have hs1:=eq_true hs;refine dD [] D7.is153 (by simp) (by simp[bn]) (by simp[ap,ag,av]) (by simp[ap,ag]) (by simp[aC]) (fun cx _ _ _=>dC [] 1500 ?_);delta D7.c153 oO oN oA oM oT oR oS oK oF oL oC oW oY oI oX oB o0 o1 oZ o7;simp only[D7.rv153,msA,msC,dpC,dV,InR,WU,V,W3,seval];refine iI (dC [wq] 600 ?_)
 try subst hm
 try simp only[ne_eq]at hdm1 hs1
 delta D7.c153k5 oO oC oW oX o5;simp only[D7.rv153,wq,hdm1,hs1,qT,wt,InR,WU,Ent.of1,V,W3,seval]
theorem done_10 (m:Ms) (y z:Int) (h:MsS m) (hz:InB m z):FC Tryz.prog 153 [msA m 100000,enc (⟨10,y,z⟩:T3)] [(100000,dpC m)] (enc (iA m z y)) []:=by
 refine dD [] D7.is153 (by simp) (by simp[bn]) (by simp[ap,ag,av]) (by simp[ap,ag]) (by simp[aC]) (fun cx _ _ _=>dC [] 1500 ?_);delta D7.c153 oO oN oA oM oT oR oS oK oF oL oC oW oY oI oX oB o0 o1 oZ o7;simp only[D7.rv153,msA,msC,dpC,dV,InR,WU,V,W3,seval];refine iI (dC [] 600 ?_);delta D7.c153k4 oO oF oL oC oW oX o5;simp only[D7.rv153,InR,WU,V,W3,seval];refine oh rfl (OpM.lend1 (Ay m z y h hz) rfl ⟨Dq rfl,.same _,.same _,trivial⟩ rfl (BG _)) (fun ef he=>?_);subst he;refine pW [] 800 ?_;simp only[D7.rv153,msA,msC,qT,dpC,wt,ak,ak.renCs,rn,InR,WU,V,W3,seval]
theorem done_2 (m:Ms) (y z:Int) (hi:InB m m.vG) (hb1:(dO m m.vG).length<=1000000) (m1:Ms) (hm:m1={ m with buf:=m.buf.set m.vG.toNat (frm (dO m m.vG) m.got) }) (hs:m1.vS≠-1->InB m1 m1.vS):xi m ⟨2,y,z⟩ m1:=by
 have hdm1:=ww m1;have hs1:=eq_true hs;refine dD [] D7.is153 (by simp) (by simp[bn]) (by simp[ap,ag,av]) (by simp[ap,ag]) (by simp[aC]) (fun cx _ _ _=>dC [] 1500 ?_);obtain⟨hi0,hi2⟩:=hi;have hi3:m.vG < (m.buf.length:Int):=by omega
 have hbg:=fu m.buf m.vG.toNat;rw[show m.buf.getD m.vG.toNat []=dO m m.vG from rfl]at hbg;have hst:=jD m.buf m.vG.toNat (frm (dO m m.vG) m.got);delta D7.c153 oO oN oA oM oT oR oS oK oF oL oC oW oY oI oX oB o0 o1 oZ o7;simp only[D7.rv153,msA,msC,dpC,dV,InR,WU,V,W3,seval];refine qC [Ao (dO m m.vG) m.got hb1] 800 ?_;simp only[gB,mFin2,lP,ot,ops2,ja,reM2,nR,p9,qr,l6,finM,kd,gP,g9,fX,ff,fN,fN.fixBs,fL,ndE2,ap,ag,av,aU,aE,ke,eL,a6,bF,Ao,wO,hi0,hi2,hi3,hbg,eo,InR,WU,V,W3,seval];refine⟨rfl,⟨Bu _,.inl trivial⟩,dC [] 600 ?_⟩;simp only[D7.rv153,hst,WU,V,W3,seval];refine iI (dC [wq] 600 ?_);subst hm;simp only[ne_eq]at hdm1 hs1;delta D7.c153k5 oO oC oW oX o5;simp only[D7.rv153,wq,hdm1,hs1,qT,wt,InR,WU,Ent.of1,V,W3,seval]
theorem done_3 (m:Ms) (y z:Int) (m1:Ms) (hm:m1={ m with vP:=1,since:=y,target:=z }) (hs:m1.vS≠-1->InB m1 m1.vS):xi m ⟨3,y,z⟩ m1:=by
 have hdm1:=ww m1;have hs1:=eq_true hs;refine dD [] D7.is153 (by simp) (by simp[bn]) (by simp[ap,ag,av]) (by simp[ap,ag]) (by simp[aC]) (fun cx _ _ _=>dC [] 1500 ?_);delta D7.c153 oO oN oA oM oT oR oS oK oF oL oC oW oY oI oX oB o0 o1 oZ o7;simp only[D7.rv153,msA,msC,dpC,dV,InR,WU,V,W3,seval];refine kh [] 800 ?_;simp only[drM,mFin,j6,kU,gQ,reM,ic,gJ,gA,ndE,ap,ag,av,aU,aE,WU,V,W3,seval];refine dC [] 400 ?_;simp only[D7.rv153,WU,V,W3,seval];refine iI (dC [wq] 600 ?_);subst hm;simp only[ne_eq]at hdm1 hs1;delta D7.c153k5 oO oC oW oX o5;simp only[D7.rv153,wq,hdm1,hs1,qT,wt,InR,WU,Ent.of1,V,W3,seval]
theorem done_4 (m:Ms) (y z:Int) (m1:Ms) (hm:m1={ m with vP:=0,since:=y,target:=-1 }) (hs:m1.vS≠-1->InB m1 m1.vS):xi m ⟨4,y,z⟩ m1:=by
 have hdm1:=ww m1;have hs1:=eq_true hs;refine dD [] D7.is153 (by simp) (by simp[bn]) (by simp[ap,ag,av]) (by simp[ap,ag]) (by simp[aC]) (fun cx _ _ _=>dC [] 1500 ?_);delta D7.c153 oO oN oA oM oT oR oS oK oF oL oC oW oY oI oX oB o0 o1 oZ o7;simp only[D7.rv153,msA,msC,dpC,dV,InR,WU,V,W3,seval];refine kh [] 800 ?_;simp only[drM,mFin,j6,kU,gQ,reM,ic,gJ,gA,ndE,ap,ag,av,aU,aE,WU,V,W3,seval];refine dC [] 400 ?_;simp only[D7.rv153,WU,V,W3,seval];refine iI (dC [wq] 600 ?_);subst hm;simp only[ne_eq]at hdm1 hs1;delta D7.c153k5 oO oC oW oX o5;simp only[D7.rv153,wq,hdm1,hs1,qT,wt,InR,WU,Ent.of1,V,W3,seval]
theorem done_5 (m:Ms) (y z:Int) (m1:Ms) (hm:m1={ m with vP:=2,since:=y }) (hs:m1.vS≠-1->InB m1 m1.vS):xi m ⟨5,y,z⟩ m1:=by
 have hdm1:=ww m1;have hs1:=eq_true hs;refine dD [] D7.is153 (by simp) (by simp[bn]) (by simp[ap,ag,av]) (by simp[ap,ag]) (by simp[aC]) (fun cx _ _ _=>dC [] 1500 ?_);delta D7.c153 oO oN oA oM oT oR oS oK oF oL oC oW oY oI oX oB o0 o1 oZ o7;simp only[D7.rv153,msA,msC,dpC,dV,InR,WU,V,W3,seval];refine kh [] 800 ?_;simp only[drM,mFin,j6,kU,gQ,reM,ic,gJ,gA,ndE,ap,ag,av,aU,aE,WU,V,W3,seval];refine dC [] 400 ?_;simp only[D7.rv153,WU,V,W3,seval];refine iI (dC [wq] 600 ?_);subst hm;simp only[ne_eq]at hdm1 hs1;delta D7.c153k5 oO oC oW oX o5;simp only[D7.rv153,wq,hdm1,hs1,qT,wt,InR,WU,Ent.of1,V,W3,seval]
theorem done_6 (m:Ms) (y z:Int) (m1:Ms) (hm:m1={ m with vP:=0,since:=y,vS:=m.vG,vG:=m.target,target:=-1 }) (hs:m1.vS≠-1->InB m1 m1.vS):xi m ⟨6,y,z⟩ m1:=by
 have hdm1:=ww m1;have hs1:=eq_true hs;refine dD [] D7.is153 (by simp) (by simp[bn]) (by simp[ap,ag,av]) (by simp[ap,ag]) (by simp[aC]) (fun cx _ _ _=>dC [] 1500 ?_);delta D7.c153 oO oN oA oM oT oR oS oK oF oL oC oW oY oI oX oB o0 o1 oZ o7;simp only[D7.rv153,msA,msC,dpC,dV,InR,WU,V,W3,seval];refine kh [] 800 ?_;simp only[drM,mFin,j6,kU,gQ,reM,ic,gJ,gA,ndE,ap,ag,av,aU,aE,WU,V,W3,seval];refine dC [] 400 ?_;simp only[D7.rv153,WU,V,W3,seval];refine iI (dC [wq] 600 ?_);subst hm;simp only[ne_eq]at hdm1 hs1;delta D7.c153k5 oO oC oW oX o5;simp only[D7.rv153,wq,hdm1,hs1,qT,wt,InR,WU,Ent.of1,V,W3,seval]
def Dl (l:List Int) (n:Int) (h:l.length<=1000000):Ent Tryz.prog:=wO 163 [enc l,enc n] (.own 5) 5 (.row 1 3 ((fR l n).map Dat.cells)) (by simp[dG]) (by simp[gd]) (put_o l n h)
theorem done_7 (m:Ms) (y z:Int) (hf:InB m (dU m)) (ht:InB m (toC m)) (hne:dU m≠toC m) (x:Int) (B:List Int) (hb:dO m (dU m)=x :: B) (hl1:(dO m (toC m)).length<=1000000) (hl2:B.length<=1000000) (m1:Ms)
 (hm:m1={ m with buf:=(m.buf.set (toC m).toNat (fR (dO m (toC m)) x)).set (dU m).toNat B }) (hs:m1.vS≠-1->InB m1 m1.vS):xi m ⟨7,y,z⟩ m1:=by
 have hdm:=ww m;obtain⟨i0,i2⟩:=hf;obtain⟨j0w,j2w⟩:=ht;have i3:dU m < (m.buf.length:Int):=by omega
 have j3w:toC m < (m.buf.length:Int):=by omega
 have hnn:(toC m).toNat≠(dU m).toNat:=by omega
 have hbf:=fu m.buf (dU m).toNat;rw[show m.buf.getD (dU m).toNat []=x :: B from hb]at hbf;have hbt:=fu m.buf (toC m).toNat;rw[show m.buf.getD (toC m).toNat []=dO m (toC m)from rfl]at hbt;have hst:=jD m.buf (toC m).toNat (fR (dO m (toC m)) x);have hbf2:(fB (m.buf.set (toC m).toNat (fR (dO m (toC m)) x))).getD (dU m).toNat []=(x :: B).map Dat.cells:=by
  rw[fu,fi,qa (fun q=>hnn q.1)];rw[show m.buf.getD (dU m).toNat []=x :: B from hb]
 have hlen1:(m.buf.set (toC m).toNat (fR (dO m (toC m)) x)).length=m.buf.length:=by simp
 have hst2:=jD (m.buf.set (toC m).toNat (fR (dO m (toC m)) x)) (dU m).toNat B;have hl00:(0:Int) < (B.length:Int)+1:=by omega
 have hl01:(1:Int)<=(B.length:Int)+1:=by omega
 have hdt:List.drop 1 (List.take ((B.length:Int)+1).toNat ([C.s (.int .i64 x)] :: B.map Dat.cells))=B.map Dat.cells:=by
  have e1:((B.length:Int)+1).toNat=B.length+1:=by omega
  rw[e1,yD,yw,yB,qo (by simp)]
 have hdm1:=ww m1;have hs1:=eq_true hs;refine dD [] D7.is153 (by simp) (by simp[bn]) (by simp[ap,ag,av]) (by simp[ap,ag]) (by simp[aC]) (fun cx _ _ _=>dC [] 1500 ?_);delta D7.c153 oO oN oA oM oT oR oS oK oF oL oC oW oY oI oX oB o0 o1 oZ o7;simp only[D7.rv153,msA,msC,dpC,dV,InR,WU,V,W3,seval];refine iI (dC [xN] 600 ?_);delta D7.c153k2 oO oN oA oM oT oS oK oF oL oC oX o0 o1 o5 o8;simp only[D7.rv153,xN,hdm,qT,wt,InR,WU,Ent.of1,V,W3,seval];generalize hF:dU m=F at *;generalize hG:toC m=G at *;refine qC [Dl (dO m G) x hl1] 800 ?_;simp only[gB,mFin2,lP,ot,ops2,ja,reM2,nR,p9,qr,l6,finM,kd,gP,g9,fX,ff,fN,fN.fixBs,fL,ndE2,ap,ag,av,aU,aE,ke,eL,a6,bF,Dl,wO,i0,i2,i3,j0w,j2w,j3w,hl00,hbf,hbt,eo,zt,zQ,yM,zy,InR,WU,V,W3,seval];refine⟨rfl,⟨by omega,Bu _,.inl trivial⟩,dC [] 600 ?_⟩;simp only[D7.rv153,hst,WU,V,W3,seval];refine qC [Bh B hl2] 800 ?_;simp only[gB,mFin2,lP,ot,ops2,ja,reM2,nR,p9,qr,l6,finM,kd,gP,g9,fX,ff,fN,fN.fixBs,fL,ndE2,ap,ag,av,aU,aE,ke,eL,a6,bF,Bh,wO,i0,i2,i3,hl00,hl01,hbf2,hlen1,hdt,eo,zt,zQ,yM,zy,InR,WU,V,W3,seval];refine⟨rfl,⟨Int.le_refl _,Bu _,.inr trivial⟩,dC [] 600 ?_⟩;simp only[D7.rv153,hst2,WU,V,W3,seval];refine iI (dC [wq] 600 ?_);subst hm;simp only[ne_eq]at hdm1 hs1;delta D7.c153k5 oO oC oW oX o5;simp only[D7.rv153,wq,hdm1,hs1,qT,wt,InR,WU,Ent.of1,V,W3,seval]
theorem G0.inB {n:Nw} {m:Ms} (g:G0 n m) {c:Int} (h:isC n c=true):InB m c:=⟨(fG h).1,g.ix h⟩
theorem dN.msS {n:Nw} {m:Ms} (net:NetOk n) (g:dN n m):MsS m:=by
 have h1:=g.len;have h2:=g.large;have h3:=net.len;refine⟨⟨by omega,fun x hx=>?_⟩,by omega⟩;have:=(List.sublist_flatten_of_mem hx).length_le;omega
theorem bufA_le {n:Nw} {m:Ms} (net:NetOk n) (g:dN n m) (c:Int):(dO m c).length<=1000000:=by
 rcases yu c.toNat m.buf.length with h | h
 . have e:dO m c=m.buf[c.toNat]:=by rw[dO,zb,ze h];rfl
   rw[e];exact (g.msS net).b.r _ (yy h)
 . have e:dO m c=[]:=by rw[dO,zb,List.getElem?_eq_none h];rfl
   rw[e];simp
theorem Ew {m:Ms} {t:Int} (h:MsS { m with at_:=t }):MsS m:=⟨h.b,h.f⟩
theorem Dz {n:Nw} {m:Ms} (net:NetOk n) (g:dN n m) (h:m.vP=2\/(m.vP=0/\m.vS≠-1)):InB m (dU m)/\InB m (toC m)/\dU m≠toC m:=by
 by_cases p:m.vP=2
 . have htn:m.target≠-1:=fun q=>(g.f2 q).2 p
   rw[dU,toC,qb p,qb p];exact⟨g.inB g.srv,g.inB (g.tgt htn),fun q=>net.ne _ _ (g.c1 htn) q.symm⟩
 . have hs:m.vS≠-1:=by
    rcases h with q | q
    . exact absurd q p
    . exact q.2
   rw[dU,toC,qa p,qa p];exact⟨g.inB (g.src hs),g.inB g.srv,net.ne _ _ (g.c2 hs)⟩
theorem Rdone_c (n:Nw) (m:Ms) (e:T3) (net:NetOk n) (G:dN n { m with at_:=e.y }) (hev:evE n e=0) (hd:et n m e=0):FC Tryz.prog 153 [msA m 100000,enc e] [(100000,dpC m)] (enc (jT m e)) []:=by
 obtain⟨hk,hy,hcz⟩:=ev_ok hev;have S:=Ew (G.msS net);have hd':et n { m with at_:=e.y } e=0:=hd;have hI:∀ c,isC n c=true->InB m c:=fun c h=>G.inB h
 have hB:∀ c,(dO m c).length<=1000000:=fun c=>bufA_le net G c
 obtain⟨ex,ey,ezw⟩:=e;simp only at hk hy hcz hd hd' G;by_cases h10:ex=10
 . subst h10;rw[jT,qb rfl];exact done_10 m ey ezw S (hI _ (hcz rfl))
 have hdn:jT m ⟨ex,ey,ezw⟩=settle (eG m ⟨ex,ey,ezw⟩):=by rw[jT,qa h10]
 rw[hdn];have A:=G.toG0.act net hev rfl hd' h10;rw[<- at_act]at A;have hs:(eG m ⟨ex,ey,ezw⟩).vS≠-1->InB (eG m ⟨ex,ey,ezw⟩) (eG m ⟨ex,ey,ezw⟩).vS:=fun q=>A.inB (A.src q)
 clear A;have k:ex=0\/ex=1\/ex=2\/ex=3\/ex=4\/ex=5\/ex=6\/ex=7\/ex=8\/ex=9\/ex=11:=by omega
 generalize hm:eG m ⟨ex,ey,ezw⟩=m1 at *;unfold eG at hm;unfold et at hd;rcases k with rfl | rfl | rfl | rfl | rfl | rfl | rfl | rfl | rfl | rfl | rfl <;> simp only[Int.reduceEq,qj,qi]at hm hd
 . have hfr:=G.fresh;exact done_0 m ey ezw (hI _ G.pth) (by simp only[InR];simp only at hfr;omega) (hB _) m1 hm.symm hs
 . have hgt:=G.got;have hfr:=G.fresh;simp only at hgt hfr;cases hb:dO m m.vG with
   | nil=>
    rw[hb]at hd;simp at hd;split at hd <;> cases hd
   | cons x l=>
    rw[hb]at hm;exact done_1 m ey ezw (hI _ G.srv) x l hb (by simp only[InR];omega) m1 hm.symm hs
 . exact done_2 m ey ezw (hI _ G.srv) (hB _) m1 hm.symm hs
 . exact done_3 m ey ezw m1 hm.symm hs
 . exact done_4 m ey ezw m1 hm.symm hs
 . exact done_5 m ey ezw m1 hm.symm hs
 . exact done_6 m ey ezw m1 hm.symm hs
 . have hq:m.vP=2\/(m.vP=0/\m.vS≠-1):=by
    by_cases q:m.vP=2
    . exact .inl q
    . by_cases q0:m.vP=0
      . by_cases qs:m.vS=-1
        . rw[qb ⟨q,.inr qs⟩]at hd;cases hd
        . exact .inr ⟨q0,qs⟩
      . rw[qb ⟨q,.inl q0⟩]at hd;cases hd
   obtain⟨w1,w2,w3⟩:=Dz net G hq;have hne:dO m (dU m)≠[]:=fun q=>by
    split at hd
    . cases hd
    . first | cases hd | (rw[qb q]at hd;cases hd)
   cases hb:dO m (dU m)with
   | nil=>exact absurd hb hne
   | cons x B=>
    rw[hb]at hm;have hbl:=hB (dU m);rw[hb]at hbl;exact done_7 m ey ezw w1 w2 w3 x B hb (hB _) (by simp at hbl;omega) m1 hm.symm hs
 . exact done_8 m ey ezw m1 hm.symm hs
 . exact done_9 m ey ezw m1 hm.symm hs
 . subst hm;exact done_11 m ey ezw hs
theorem FC.keys {f:FuncId} {cs:List C} {r:C} {c:Ch} (k:Nat) (h:FC Tryz.prog f cs [(100000,c)] r []) (hr:ak [(100000,k)] r=r) (hk:dG [100000] r) (hc:aF [(100000,k)] c=c):FC Tryz.prog f (cs.map (ak [(100000,k)])) [(k,c)] r []:=by
 have:=FC.ren h [(100000,k)] [100000] (by simp[rn,lk]) (fun k' c' hm=>by simp at hm ⊢;exact hm.1) (fun k' c' hm=>by simp at hm) hk;rw[hr]at this;simpa[ar,rn,lk,hc]using this
theorem Di (m:Ms) (k:Nat):ak [(100000,k)] (enc m)=enc m/\dG [100000] (enc m):=by
 rw[qT];simp[ak,ak.renCs,dG,dG.keysIns]
def x5 (n:Nw) (m:Ms) (e:T3):Ms:=if qw n m e≠0 then ms0 else qE n m e
theorem Step_c (n:Nw) (m:Ms) (e:T3) (hn:NwS n) (net:NetOk n) (g:dN n m) (hev:evE n e=0):FC Tryz.prog 119 [enc n,enc m,enc e] [] (.tup [enc (x5 n m e),enc (qw n m e)]) []:=by
 obtain⟨hk,hy,hcz⟩:=ev_ok hev;have S:=g.msS net;have hlen:=g.len;have hlen0:=net.len;have hsi:=g.since;have hat:=g.at_;have hli:=net.lim;by_cases ht:e.y < m.at_
 . have hE:qw n m e=9:=by rw[qw,qb ht]
   have hS:x5 n m e=ms0:=by rw[x5,hE];rfl
   rw[hE,hS];refine dD [] is119 (by simp) (by simp[bn]) (by simp[ap,ag]) (by simp[ap,ag]) (by simp[aC]) (fun cx _ _ _=>dC [] 1500 ?_);delta c119 oO oN oA oM oS oK oF oL oV oC oW oI oX oB oZ o5 o7 o8;simp only[Au,eO,qT,dV,ht,ms0,InR,WU,V,W3,seval]
 . have hE:qw n m e=et n (p8 n m e.y) e:=by rw[qw,qa ht];rfl
   have G:dN n { p8 n m e.y with at_:=e.y }:=g.pass net (by omega) hy.2;have hap:qE n m e={ jT (p8 n m e.y) e with at_:=e.y }:=by rw[at_done];rfl
   have SY:=Ew (G.msS net);have hdoes:=does_c n (p8 n m e.y) e hn SY hk (G.inB G.srv) (fun q=>(Dz net G q).1);generalize hY:p8 n m e.y=Y at *;have pass:=Pass_o n m e.y hn S (by omega) (fun _=>by simp only[InR];omega);rw[hY]at pass;refine dD [] is119 (by simp) (by simp[bn]) (by simp[ap,ag]) (by simp[ap,ag]) (by simp[aC]) (fun cx _ _ _=>dC [wO 110 [enc n,enc m,enc e.y] (.tup [msA Y 25,enc (x8 n m e.y)]) 25 (.deep 1 3 24 none (fB Y.buf)) ⟨AR _ 25,trivial,trivial⟩ (by simp[gd]) pass] 1500 ?_);delta c119 oO oN oA oM oS oK oF oL oV oC oW oI oX oB oZ o5 o7 o8;simp only[Au,eO,qT,dV,ht,wO,msA,msC,InR,qc,WU,V,W3,seval];refine oh rfl (OpM.lend0 hdoes rfl ⟨.same _,Dq rfl,.same _,trivial⟩ rfl rfl) (fun ef he=>?_);subst he;refine pW [] 800 ?_;by_cases h0:et n Y e=0
   . have hE0:qw n m e=0:=hE.trans h0;have hS:x5 n m e={ jT Y e with at_:=e.y }:=by rw[x5,qa (by simp[hE0]),hap]
     have hdone:=FC.keys 22 (Rdone_c n Y e net G hev h0) (Di _ 22).1 (Di _ 22).2 rfl;rw[hE0,hS];simp only[Au,h0,qc,WU,V,W3,seval];refine pV (.yes _ rfl (OpR.give (k:=22) (c:=dpC Y) rfl hdone (by rfl) rfl (fun cs q=>by cases q) (by rw[qT];simp[dG,dG.keysIns]))) trivial ?_;refine pW [] 800 ?_;simp only[Au,qT,a7,az,bA,InR,WU,V,W3,seval]
   . have hE0:¬ qw n m e=0:=by rw[hE];exact h0
     have hS:x5 n m e=ms0:=by rw[x5,qb hE0]
     rw[hS,hE];simp only[Au,h0,ms0,qc,qd,WU,V,W3,seval]
theorem Ar (m:Ms):dG [] (enc m):=by rw[qT];simp[dG,dG.keysIns]
theorem Apply_c (n:Nw) (m:Ms) (e:T3) (hn:NwS n) (net:NetOk n) (g:dN n m):FC Tryz.prog 71 [enc n,enc m,enc e] [] (.tup [enc (wU n m e),enc (fY n m e)]) []:=by
 have hdn:=jd n;have eta:(⟨e.x,e.y,e.z⟩:T3)=e:=rfl;by_cases hev:evE n e=0
 . have hE:fY n m e=qw n m e:=by rw[fY,qa (by simp[hev])]
   have hS:wU n m e=x5 n m e:=by rw[wU,hE];rfl
   rw[hE,hS];have hx:=Step_c n m e hn net g hev;refine dD [] is71 (by simp) (by simp[bn]) (by simp[ap,ag]) (by simp[ap,ag]) (by simp[aC]) (fun cx _ _ _=>dC [B9,wu 119 _ _ hx ⟨Ar _,trivial,trivial⟩] 1500 ?_);delta c71 oO oN oA oM oS oK oV oC oW oI oX oB oZ o5 o7 o8;simp only[rv71,B9,wu,eO,qT,dV,lV,eta,hdn,hn,hev,qc,WU,Ent.of2,V,W3,seval]
 . have hE:fY n m e=evE n e:=by rw[fY,qb hev]
   have hS:wU n m e=ms0:=by rw[wU,hE,qb hev]
   rw[hE,hS];refine dD [] is71 (by simp) (by simp[bn]) (by simp[ap,ag]) (by simp[ap,ag]) (by simp[aC]) (fun cx _ _ _=>dC [B9] 1500 ?_);delta c71 oO oN oA oM oS oK oV oC oW oI oX oB oZ o5 o7 o8;simp only[rv71,B9,eO,qT,dV,lV,eta,hdn,hn,hev,ms0,qc,qd,WU,Ent.of2,V,W3,seval]
theorem nil_els (k:Nat) {E:Env} {U:Nat->Prop} {h:Array Obj} {v:Value} (hr:Rep E U h (.sl 1 (List.replicate k [C.s (.slice none 0 0)])) v):Rep E U h (.sl 1 (List.replicate k [C.sl 1 []])) v:=by
 have hd:=ji hr;generalize hes:List.replicate k [C.s (.slice none 0 0)]=es at hd;have hl:es.length=k:=by rw[<- hes,List.length_replicate]
 have hg:∀ (i:Nat) (e:List C),(List.replicate k [C.sl 1 []])[i]? = some e->i < k/\e=[C.sl 1 []]:=fun i e he=>by
  rw[List.getElem?_replicate]at he;split at he
  . rename_i q;cases he;exact⟨q,rfl⟩
  . cases he
 have hg2:∀ i,i < k->es[i]? = some [C.s (.slice none 0 0)]:=fun i hi=>by rw[<- hes,List.getElem?_replicate,qb hi]
 cases hd with
 | sl0 _ a cap hc=>
  have:k=0:=by simpa using hl.symm
  subst this;exact .d (.sl0 1 a cap hc)
 | sl _ b off cap _ arr ty fz vf hU hb hcap hmax hsz hv hrr=>
  have hk:es.length=(List.replicate k [C.sl 1 []]).length:=by rw[hl,List.length_replicate]
  rw[hk];refine .d (.sl _ b off cap 1 arr ty fz vf hU hb (by rw[<- hk];exact hcap) hmax (fun i e he=>by rw[(hg i e he).2];rfl) (fun i e j c he hj=>?_) (fun i e j c he hj=>?_))
  . obtain⟨h1,rfl⟩:=hg i e he;have hj0:j=0:=by have:=(zi.1 hj).1;simpa using this
    subst hj0;exact hv i _ 0 _ (hg2 i h1) rfl
  . obtain⟨h1,rfl⟩:=hg i e he;have hj0:j=0:=by have:=(zi.1 hj).1;simpa using this
    subst hj0;cases hj;have:=hrr i _ 0 _ (hg2 i h1) rfl;generalize vf i 0=u at *;cases this;exact .sl0 1 none 0 (by simp[maxLen])
theorem EU {E:Env} {U:Nat->Prop} {h:Array Obj} {cs:List C} {a b:C} {v:Value} (hr:Rep E U h (.agg (cs++[a])) v) (hab:∀ u,Rep E U h a u->Rep E U h b u):Rep E U h (.agg (cs++[b])) v:=by
 cases hr with
 | d hd=>cases hd
 | agg _ vs q1 q2 q3=>
  refine .agg _ vs (by simpa using q1) (fun j c hj=>?_) q3;rw[zS]at hj;split at hj
  . rename_i hlt;exact q2 j c (by rw[zS,qb hlt];exact hj)
  . rename_i hlt;have hj0:j=cs.length:=by have:=(zi.1 hj).1;simp at this;omega
    subst hj0;simp at hj;subst hj;exact hab _ (q2 cs.length a (by simp))
theorem FC.post {f:FuncId} {as0:List C} {r r':C} (hfc:FC Tryz.prog f as0 [] r []) (hp:∀ E U h v,Rep E U h r v->Rep E U h r' v):FC Tryz.prog f as0 [] r' []:=
 ⟨hfc.1,fun E U vs w hg ha hi=>(hfc.2 E U vs w hg ha hi).mono fun e w' ⟨v,E',U',he,hr,hc⟩=>⟨v,E',U',he,hp _ _ _ _ hr,hc⟩⟩
end Go.Proofs.YtcbabnbiinkafaaGreatDoor
end
