/- Part 10 of the proof of: the statements about chapter 8 -/
import Derived.Test.YtcbabnbiinkafaaGreatDoorBq9
set_option linter.all false
section
open Go Go.Am
open Go.Am.Dat (cells)
namespace Go.Proofs.YtcbabnbiinkafaaGreatDoor
set_option maxHeartbeats 4000000
set_option maxRecDepth 100000
theorem sB (s n:List Int):FC Tryz.prog 92 [enc s,enc n] [] (enc (ma s n)) []:=by
 refine eh is92 (by simp) (fun cx hl=>dC [dT,dS] 800 ?_);simp only[V,W3,↓reduceIte,seval,reduceCtorEq]at hl;have hl1:=hl.1.list;have hl2:=hl.2.list;unfold ma;by_cases h1:n.length=s.length
 . have h1':(n.length:Int)=s.length:=by omega
   by_cases h2:s.length<=60
   . have h2':(s.length:Int)<=60:=by omega
     have h3:¬ s.length > 60:=by omega
     rw[if_neg (by simp[h1]),if_neg h3];generalize hB:gP s n=B;delta c92 oO oN oA oM oS oK oV oC oI oX oB o1 o4;simp (maxSteps:=9^7) -implicitDefEqProofs only[rv92,dT,dS,dM,h1',h2',WU,Ent.of0,Ent.of1,Ent.of2,Ent.of3,Ent.of4,V,W3,↓reduceIte,seval,reduceCtorEq];refine eN s.length (fun i=>[(25,.s (.int .i64 (i:Int)))]) (fun _=>[]) (fun i=>B=gP (s.drop i) (n.drop i)) (by simp[hB]) ?_ (fun i hi hv=>dC [uB] 800 ?_)
     . simp (maxSteps:=9^7) -implicitDefEqProofs only[Ent.of0,Ent.of1,Ent.of2,Ent.of3,Ent.of4,V,W3,↓reduceIte,seval,reduceCtorEq]
       all_goals simp
     . by_cases h:i < s.length
       . have hi2:(i:Int) < (s.length:Int):=by omega
         have hi3:(i:Int) < (n.length:Int):=by omega
         rw[eg 0 h,eg 0 (by omega:i < n.length),gP]at hv;cases hx:kg (s.getD i 0) <;> cases hy:kg (n.getD i 0)
         all_goals
          rw[hx,hy]at hv;simp at hv;delta c92l1 oO oN oA oM oG oR oS oK oL oV oC oI oX oH oB oD oJ o1;simp (maxSteps:=9^7) -implicitDefEqProofs only[rv92,uB,hi2,hi3,h,hx,hy,InR,WU,Ent.of0,Ent.of1,Ent.of2,Ent.of3,Ent.of4,V,W3,↓reduceIte,seval,reduceCtorEq];grind
       . have hi2:¬ (i:Int) < (s.length:Int):=by omega
         rw[zv (by omega)]at hv;simp[gP]at hv;delta c92l1 oO oN oA oM oG oR oS oK oL oV oC oI oX oH oB oD oJ o1;simp (maxSteps:=9^7) -implicitDefEqProofs only[rv92,hi2,WU,Ent.of0,Ent.of1,Ent.of2,Ent.of3,Ent.of4,V,W3,↓reduceIte,seval,reduceCtorEq];simp[hv]
   . have h2':¬ (s.length:Int)<=60:=by omega
     have h3:s.length > 60:=by omega
     rw[if_neg (by simp[h1]),if_pos h3];delta c92 oO oN oA oM oS oK oV oC oI oX oB o1 o4;simp (maxSteps:=9^7) -implicitDefEqProofs only[rv92,dT,dS,dM,h1',h2',WU,Ent.of0,Ent.of1,Ent.of2,Ent.of3,Ent.of4,V,W3,↓reduceIte,seval,reduceCtorEq];simp
 . have h1':¬ (n.length:Int)=s.length:=by omega
   rw[if_pos h1];by_cases h2':(s.length:Int)<=60
   . delta c92 oO oN oA oM oS oK oV oC oI oX oB o1 o4;simp (maxSteps:=9^7) -implicitDefEqProofs only[rv92,dT,dS,dM,h1',h2',WU,Ent.of0,Ent.of1,Ent.of2,Ent.of3,Ent.of4,V,W3,↓reduceIte,seval,reduceCtorEq]
     try simp
   . delta c92 oO oN oA oM oS oK oV oC oI oX oB o1 o4;simp (maxSteps:=9^7) -implicitDefEqProofs only[rv92,dT,dS,dM,h1',h2',WU,Ent.of0,Ent.of1,Ent.of2,Ent.of3,Ent.of4,V,W3,↓reduceIte,seval,reduceCtorEq]
     try simp
def ent92 : Ent Tryz.prog:=.of2 92 (fun _ _=>True) (fun s n:List Int=>enc (ma s n)) (fun _ _=>trivial) (fun s n _=>sB s n)
def nG (r:Rul) (s n:Int):Bool:=decide (s+r.off+r.hyst < n)
def over (r:Rul) (s n:Int):Bool:=decide (n < s+r.off - r.hyst)
def trg (r:Rul):List Int->List Int->Nat->Int->Bool->List Int
 | s :: l,n :: m,t,run,armed=>
  let run':=if nG r s n then run+1 else 0
  let armed':=armed || over r s n
  if armed' && decide (r.trig < run')then (t:Int) :: trg r l m (t+1) run' false else trg r l m (t+1) run' armed'
 |_,_,_,_,_=>[]
def jl (V:List Int) (i:Nat):List C:=[.s (.int .i64 (V.getD i 0))]
theorem td (r:Rul) (m:List Int) (t:Nat) (run:Int) (a:Bool):trg r [] m t run a=[]:=by cases m <;> rfl
theorem pW {α:Type} {V l:List α} {c:Nat} {a d:α} (h:V.drop c=a :: l):c < V.length/\V.getD c d=a/\V.drop (c+1)=l:=by
 have h1:c < V.length:=by
  rcases yu c V.length with g | g
  . exact g
  . rw[zv g]at h;cases h
 rw[eg d h1]at h;exact⟨h1,(List.cons.inj h).1,(List.cons.inj h).2⟩
theorem sV {s n:List Int} (h:gP s n=true) (hl:n.length=s.length):∀ i,i < s.length->(-2000<=s.getD i 0/\s.getD i 0<=1000)/\(-2000<=n.getD i 0/\n.getD i 0<=1000):=by
 induction s generalizing n with
 | nil=>intro i hi;simp at hi
 | cons a s ih=>
  cases n with
  | nil=>simp at hl
  | cons b n=>
   simp only[gP,zm]at h;intro i hi;cases i with
   | zero=>simpa[kg]using h.1
   | succ i=>simpa using ih h.2 (by simpa using hl) i (by simpa using hi)
theorem iter_c (r:Rul) (s n:List Int) (hr:j4 r=true) (hl:gP s n=true) (hln:n.length=s.length) (h60:s.length<=60) :
 ItC Tryz.prog 138 [] [.ref [enc s],.ref [enc n],.ref (cells r)] [] 100000 (jl (trg r s n 0 0 true)) (trg r s n 0 0 true).length true:=by
 intro l R Rf hy;obtain⟨off,hyst,trig⟩:=r;simp only[j4,zm,decide_eq_true_eq]at hr;refine lX [] is138 (by simp) (by simp) (fun o ho k cs hm=>by simp at ho;rcases ho with rfl | rfl <;> simp at hm) (fun cx _ _ _=>dC [] 800 ?_);delta c138 oL oV oX o4 o9;simp (maxSteps:=9^7) -implicitDefEqProofs only[mG,yb,z4,gv,Ent.of0,Ent.of1,Ent.of2,Ent.of3,Ent.of4,V,W3,↓reduceIte,seval,reduceCtorEq];generalize hV:trg (⟨off,hyst,trig⟩:Rul) s n 0 0 true=vv at hy ⊢;refine sK (α:=Nat×Nat×Int×Bool) (fun v=>[(5,.s (.int .i64 v.2.2.1)),(6,.s (.bool v.2.2.2)),(12,.s (.int .i64 (v.1:Int)))]) (fun v=>[(100000,.res (R v.2.1))])
  (fun v=>v.1<=s.length/\v.2.1<=vv.length/\vv.drop v.2.1=trg ⟨off,hyst,trig⟩ (s.drop v.1) (n.drop v.1) v.1 v.2.2.1 v.2.2.2/\0<=v.2.2.1/\v.2.2.1<=v.1) (fun v=>s.length - v.1) (0,0,0,true)
  ⟨yF _,yF _,by simp[hV],by simp,by simp⟩ ?_ (fun v hv=>?_)
 . simp (maxSteps:=9^7) -implicitDefEqProofs only[Ent.of0,Ent.of1,Ent.of2,Ent.of3,Ent.of4,V,W3,↓reduceIte,seval,reduceCtorEq]
   all_goals simp
 . obtain⟨i,c,run,armed⟩:=v;simp only at hv;obtain⟨v1,v2,v3,v4,v5⟩:=hv;refine dC [] 800 ?_;by_cases h:i < s.length
   . have hi2:(i:Int) < (s.length:Int):=by omega
     have hi3:(i:Int) < (n.length:Int):=by omega
     have hi4:i < n.length:=by omega
     have hi0:(0:Int)<=i:=by omega
     obtain⟨b1,b2⟩:=sV hl hln i h;rw[eg 0 h,eg 0 hi4,trg]at v3;have hs1:InR .i64 (s.getD i 0+off):=by simp only[InR];omega
     have hs2:InR .i64 (s.getD i 0+off+hyst):=by simp only[InR];omega
     have hs3:InR .i64 (s.getD i 0+off - hyst):=by simp only[InR];omega
     have hs4:InR .i64 (run+1):=by simp only[InR];omega
     have hs5:InR .i64 ((i:Int)+1):=by simp only[InR];omega
     delta rm oO oN oA oM oG oR oS oK oF oL oV oI oX oP oB oD oE oJ o1 o9;simp (maxSteps:=9^7) -implicitDefEqProofs only[mG,gv,j9,h,hi2,hi3,hi4,hi0,hs1,hs2,hs3,hs4,hs5,InR,yb,z4,WU,Ent.of0,Ent.of1,Ent.of2,Ent.of3,Ent.of4,V,W3,↓reduceIte,seval,reduceCtorEq];generalize s.getD i 0=sa at *;generalize n.getD i 0=na at *;have hyc:∀ rest,vv.drop c=(i:Int) :: rest->YAt Tryz.prog l [.s (.int .i64 (i:Int))] (R c) (some (R (c+1))) Rf:=fun rest hd=>by
      obtain⟨g1,g2,_⟩:=pW (d:=(0:Int)) hd;have:=hy c g1;simp only[jl,g2,or_true,if_true]at this;exact this
     repeat' first | (refine And.intro (by omega) ?_) | split
     all_goals first
      | (refine⟨(i+1,c,_,_),⟨?_,?_,?_,?_,?_⟩,?_,⟨rfl,rfl,?_⟩,rfl⟩
         . show i+1<=s.length
           omega
         . exact v2
         . show vv.drop c=_
           rw[v3];simp[nG,over, *]
         . simp only;omega
         . simp only;push_cast;omega
         . simp only;omega
         . push_cast;rfl)
      | (have hd:∃ rest,vv.drop c=(i:Int) :: rest:=⟨_,by rw[v3];simp[nG,over, *];rfl⟩
         obtain⟨rest,hd⟩:=hd;obtain⟨g1,g2,g3⟩:=pW (d:=(0:Int)) hd;refine t7 rfl (OpM.yield (l:=l) (kr:=100000) (xs:=[.s (.int .i64 (i:Int))]) (R:=R c) (Rt:=some (R (c+1))) (Rf:=Rf) rfl rfl rfl (hyc _ hd)) (fun ef hef=>nz [] 800 ?_);rw[v3]at hd;simp[nG,over, *]at hd;simp only[ce,cq,zl,zA,or_false]at hef;rcases hef with rfl | rfl
         . simp (maxSteps:=9^7) -implicitDefEqProofs only[mG,WU,Ent.of0,Ent.of1,Ent.of2,Ent.of3,Ent.of4,V,W3,↓reduceIte,seval,reduceCtorEq];refine⟨by omega,(i+1,c+1,_,_),⟨?_,?_,?_,?_,?_⟩,?_,⟨rfl,rfl,?_⟩,rfl⟩
           . show i+1<=s.length
             omega
           . show c+1<=vv.length
             omega
           . show vv.drop (c+1)=_
             rw[g3,hd]
           . simp only;omega
           . simp only;push_cast;omega
           . simp only;omega
           . push_cast;rfl
         . simp (maxSteps:=9^7) -implicitDefEqProofs only[mG,WU,Ent.of0,Ent.of1,Ent.of2,Ent.of3,Ent.of4,V,W3,↓reduceIte,seval,reduceCtorEq]
           exact⟨_,zq,trivial,rfl,trivial⟩)
   . have hi2:¬ (i:Int) < (s.length:Int):=by omega
     have en:s.drop i=[]:=zv (by omega);rw[en,td]at v3;have hc:c=vv.length:=by
      have:=congrArg List.length v3;simp at this;omega
     subst hc;delta rm oO oN oA oM oG oR oS oK oF oL oV oI oX oP oB oD oE oJ o1 o9;simp (maxSteps:=9^7) -implicitDefEqProofs only[mG,hi2,WU,Ent.of0,Ent.of1,Ent.of2,Ent.of3,Ent.of4,V,W3,↓reduceIte,seval,reduceCtorEq];exact⟨_,zo _ zq,trivial,rfl,trivial⟩
def iv (r:Rul) (s n:List Int):List Int:=trg r s n 0 0 true
structure TrgOk (r:Rul) (s n:List Int):Prop where
 hr:j4 r=true
 hl:gP s n=true
 hln:n.length=s.length
 h60:s.length<=60
theorem qv {V:List Int} {i:Nat} (h:i < V.length):(V.take i).map cells++[[C.s (.int .i64 (V.getD i 0))]]=(V.take (i+1)).map cells:=by
 rw[qu 0 h,yg];rfl
theorem ite_len {b:Prop} [Decidable b] {x y:List Int} {k:Nat} (h1:x.length<=k) (h2:y.length<=k):(if b then x else y).length<=k:=by split <;> assumption
theorem mK (r:Rul):∀ (s n:List Int) (t:Nat) (run:Int) (a:Bool),(trg r s n t run a).length<=s.length
 |[],n,t,run,a=>by rw[td];simp
 | x :: s,[],t,run,a=>by simp[trg]
 | x :: s,y :: n,t,run,a=>by
  rw[trg];exact ite_len (by rw[zQ];exact Nat.succ_le_succ (mK r s n _ _ _)) (Nat.le_succ_of_le (mK r s n _ _ _))
def trF (r:Rul) (s n:List Int):C:=.fn (.func 138) [] [.ref [enc s],.ref [enc n],.ref (cells r)]
theorem sg (r:Rul) (s n:List Int) (h:TrgOk r s n):FC Tryz.prog 137 [.s (.slice none 0 0),trF r s n] [] (enc (iv r s n)) []:=by
 have hit:=iter_c r s n h.hr h.hl h.hln h.h60;have hVl:(iv r s n).length<=60:=z6 (mK r s n 0 0 true) h.h60;refine dD [] is137 (by simp) trivial trivial trivial trivial (fun cx hcx hl _=>dC [] 800 ?_);delta c137 oO oA oM oR oS oK oL oX o7;simp (maxSteps:=9^7) -implicitDefEqProofs only[rv137,trF,Ent.of0,Ent.of1,Ent.of2,Ent.of3,Ent.of4,V,W3,↓reduceIte,seval,reduceCtorEq];refine S_sh 200000 (by rw[hcx.2.2];exact zw _) (by rfl) ?_;simp (maxSteps:=9^7) -implicitDefEqProofs only[Ent.of0,Ent.of1,Ent.of2,Ent.of3,Ent.of4,V,W3,↓reduceIte,seval,reduceCtorEq];generalize hVV:iv r s n=vv at *;rw[show trg r s n 0 0 true=vv from hVV]at hit;refine mL (f:=138) (first:=[]) (caps:=[.ref [enc s],.ref [enc n],.ref (cells r)]) (ich:=[]) (kr:=100000) (vals:=jl vv) (N:=vv.length) (fin:=true) [200002]
  (fun i=>[(200002,.box [if i=0 then .s (.slice none 0 0)else .isl 1 3 ((vv.take i).map cells)])])
  hcx.2.1 rfl hit ⟨⟨rfl,trivial⟩,trivial⟩ ⟨fun c hc=>?_,fun k c hc=>by simp at hc⟩ ?_ (fun i hi=>?_) (fun k hk=>?_) (fun i hi=>?_) (fun i hi cx' _ hcx'=>dC [] 800 ?_) (fun _=>?_)
 . simp at hc;rcases hc with rfl | rfl | rfl <;> trivial
 . simp (maxSteps:=9^7) -implicitDefEqProofs only[Ent.of0,Ent.of1,Ent.of2,Ent.of3,Ent.of4,V,W3,↓reduceIte,seval,reduceCtorEq]
 . simp (maxSteps:=9^7) -implicitDefEqProofs only[Ent.of0,Ent.of1,Ent.of2,Ent.of3,Ent.of4,V,W3,↓reduceIte,seval,reduceCtorEq]
   all_goals simp
 . rw[hcx.2.2];simp only[zl,zA,or_false]at hk;omega
 . refine⟨rfl,fun c hc=>?_⟩;simp only[jl,zg]at hc;subst hc;trivial
 . simp (maxSteps:=9^7) -implicitDefEqProofs only[jl,Ent.of0,Ent.of1,Ent.of2,Ent.of3,Ent.of4,V,W3,↓reduceIte,seval,reduceCtorEq];intro cx'' _ _;refine dC [] 800 ?_;have hlen:(vv.take i).length=i:=by simp;omega
   have hsn:=qv hi;cases i with
   | zero=>
    have h1:[[C.s (.int .i64 (vv.getD 0 0))]]=(vv.take 1).map cells:=by simpa using hsn
    delta c137r1 oO oA oM oR oL oY o1;simp (maxSteps:=9^7) -implicitDefEqProofs only[InR,Ent.of0,Ent.of1,Ent.of2,Ent.of3,Ent.of4,V,W3,↓reduceIte,seval,reduceCtorEq];rw[h1];exact⟨by decide,.inr trivial,rfl⟩
   | succ i=>
    delta c137r1 oO oA oM oR oL oY o1;simp (maxSteps:=9^7) -implicitDefEqProofs only[hlen,Nat.succ_ne_zero,InR,hsn,Ent.of0,Ent.of1,Ent.of2,Ent.of3,Ent.of4,V,W3,↓reduceIte,seval,reduceCtorEq];exact⟨⟨by decide,by omega,by omega⟩,by decide,.inr trivial⟩
 . by_cases hv0:vv.length=0
   . have:vv=[]:=List.length_eq_zero_iff.1 hv0;subst this;refine dC [] 800 ?_;simp (maxSteps:=9^7) -implicitDefEqProofs only[rv137,Ent.of0,Ent.of1,Ent.of2,Ent.of3,Ent.of4,V,W3,↓reduceIte,seval,reduceCtorEq]
   . simp only[if_neg hv0,yo];refine S_fzb 200002 rfl (dC [] 800 ?_);simp (maxSteps:=9^7) -implicitDefEqProofs only[rv137,Ent.of0,Ent.of1,Ent.of2,Ent.of3,Ent.of4,V,W3,↓reduceIte,seval,reduceCtorEq]
def uC : Ent Tryz.prog:=.mk3 137 (fun args chs=>match args,chs with
 |[.s (.slice none 0 0),.fn (.func f) [] [.ref [.sl 1 a],.ref [.sl 1 b],.ref [.s (.int .i64 x),.s (.int .i64 y),.s (.int .i64 z)]]],[]=>
  (fh a:Option (List Int)).bind fun s=>(fh b:Option (List Int)).bind fun n=>some (f=138/\TrgOk ⟨x,y,z⟩ s n,enc (iv ⟨x,y,z⟩ s n),[],[])
 |_,_=>none) (by
 intro args chs p r chs' nk hs hp;split at hs
 . simp only[zk,zn,zf]at hs;obtain⟨s,h1,n,h2,rfl,rfl,rfl,rfl⟩:=hs;obtain⟨rfl,h⟩:=hp;have:=sg _ s n h;rw[trF,gv,gv,<- gj h1,<- gj h2]at this;exact⟨this,.plain trivial⟩
 . cases hs)
theorem tZ (r:Rul) (s n:List Int) (h:TrgOk r s n):FC Tryz.prog 93 [trF r s n] [] (enc (iv r s n)) []:=by
 obtain⟨off,hyst,trig⟩:=r;refine dD [] is93 (by simp) trivial trivial trivial trivial (fun cx _ hl _=>dC [uC] 800 ?_);delta c93 oO oA oM oC oX;simp (maxSteps:=9^7) -implicitDefEqProofs only[rv93,trF,j9,uC,h,Ent.of0,Ent.of1,Ent.of2,Ent.of3,Ent.of4,V,W3,↓reduceIte,seval,reduceCtorEq]
def ent93 : Ent Tryz.prog:=.mk3 93 (fun args chs=>match args,chs with
 |[.fn (.func f) [] [.ref [.sl 1 a],.ref [.sl 1 b],.ref [.s (.int .i64 x),.s (.int .i64 y),.s (.int .i64 z)]]],[]=>
  (fh a:Option (List Int)).bind fun s=>(fh b:Option (List Int)).bind fun n=>some (f=138/\TrgOk ⟨x,y,z⟩ s n,enc (iv ⟨x,y,z⟩ s n),[],[])
 |_,_=>none) (by
 intro args chs p r chs' nk hs hp;split at hs
 . simp only[zk,zn,zf]at hs;obtain⟨s,h1,n,h2,rfl,rfl,rfl,rfl⟩:=hs;obtain⟨rfl,h⟩:=hp;have:=tZ _ s n h;rw[trF,gv,gv,<- gj h1,<- gj h2]at this;exact⟨this,.plain trivial⟩
 . cases hs)
theorem tX (r:Rul) (s n:List Int):FC Tryz.prog 94 [enc r,enc s,enc n] [] (trF r s n) []:=by
 obtain⟨off,hyst,trig⟩:=r;refine dD [] D.is94 (by simp) trivial trivial trivial trivial (fun cx _ hl _=>dC [] 800 ?_);delta D.c94 oA oX o7;simp (maxSteps:=9^7) -implicitDefEqProofs only[D.rv94,iy,Ent.of0,Ent.of1,Ent.of2,Ent.of3,Ent.of4,V,W3,↓reduceIte,seval,reduceCtorEq];refine iw (nD 3 3 rfl rfl rfl (nD 4 4 rfl rfl rfl (nD 5 5 rfl rfl rfl (dC [] 800 ?_))));delta D.c94k1 oO oA oM oX;simp (maxSteps:=9^7) -implicitDefEqProofs only[D.rv94,refS,trF,j9,Ent.of0,Ent.of1,Ent.of2,Ent.of3,Ent.of4,V,W3,↓reduceIte,seval,reduceCtorEq]
def ent94 : Ent Tryz.prog:=.of3 94 (fun _ _ _=>True) (fun (r:Rul) (s n:List Int)=>trF r s n) (fun r s n=>by simp[trF,dF,dF.keysIns]) (fun r s n _=>tX r s n)
def iY (r:Rul) (s n:List Int):Int:=dM [km r,ma s n]
theorem sd {r:Rul} {s n:List Int} (h:iY r s n=0):TrgOk r s n:=by
 unfold iY at h;simp only[dM]at h;have h1:km r=0:=by
  rcases Classical.em (km r=0)with g | g
  . exact g
  . rw[if_pos g]at h;exact absurd h g
 have h2:ma s n=0:=by
  rw[if_neg (by simp[h1])]at h;rcases Classical.em (ma s n=0)with g | g
  . exact g
  . rw[if_pos g]at h;exact absurd h g
 unfold km at h1;unfold ma at h2;refine⟨by revert h1;cases j4 r <;> simp,?_,?_,?_⟩
 all_goals
  revert h2;by_cases g1:n.length=s.length <;> by_cases g2:s.length > 60 <;> cases g3:gP s n <;> simp[g1,g2]
  try omega
theorem th (r:Rul) (s n:List Int):FC Tryz.prog 23 [enc r,enc s,enc n] [] (.tup [enc (if iY r s n=0 then iv r s n else []),enc (iY r s n)]) []:=by
 have hE:dM [km r,ma s n]=iY r s n:=rfl;obtain⟨off,hyst,trig⟩:=r;refine dD [] is23 (by simp) trivial trivial trivial trivial (fun cx _ hl _=>dC [ent26,ent92,dS,ent94,ent93] 800 ?_);by_cases h:iY ⟨off,hyst,trig⟩ s n=0
 . have hok:=sd h;delta c23 oO oN oA oM oS oK oV oC oI oX oB o1 o5 o7;simp (maxSteps:=9^7) -implicitDefEqProofs only[rv23,ent26,ent92,dS,ent94,ent93,iy,jU,j9,trF,hE,h,hok,Ent.of0,Ent.of1,Ent.of2,Ent.of3,Ent.of4,V,W3,↓reduceIte,seval,reduceCtorEq]
   try simp
 . delta c23 oO oN oA oM oS oK oV oC oI oX oB o1 o5 o7;simp (maxSteps:=9^7) -implicitDefEqProofs only[rv23,ent26,ent92,dS,ent94,ent93,iy,jU,trF,hE,h,Ent.of0,Ent.of1,Ent.of2,Ent.of3,Ent.of4,V,W3,↓reduceIte,seval,reduceCtorEq]
   try simp[h]
def qK : Ent Tryz.prog:=.of3 23 (fun _ _ _=>True) (fun (r:Rul) (s n:List Int)=>.tup [enc (if iY r s n=0 then iv r s n else []),enc (iY r s n)]) (fun r s n=>⟨trivial,trivial,trivial⟩) (fun r s n _=>th r s n)
def ftE (r:Rul) (s n:List Int):Int:=if iY r s n≠0 then iY r s n else if iv r s n=[]then 12 else 0
theorem pz (r:Rul) (s n:List Int):FC Tryz.prog 25 [enc r,enc s,enc n] [] (.tup [enc (if ftE r s n=0 then (iv r s n).getD 0 0 else 0),enc (ftE r s n)]) []:=by
 obtain⟨off,hyst,trig⟩:=r;refine dD [] is25 (by simp) trivial trivial trivial trivial (fun cx _ hl _=>dC [qK,dT,dS] 800 ?_);by_cases h:iY ⟨off,hyst,trig⟩ s n=0
 . have hl60:(iv ⟨off,hyst,trig⟩ s n).length<=60:=z6 (mK _ s n 0 0 true) (sd h).h60;by_cases h2:iv ⟨off,hyst,trig⟩ s n=[]
   . delta c25 oO oN oA oM oS oK oL oV oC oI oX oB o1 o4 o5 o7 o8;simp (maxSteps:=9^7) -implicitDefEqProofs only[rv25,qK,dT,dS,iy,jU,dM,h,h2,ftE,zR,yh,WU,Ent.of0,Ent.of1,Ent.of2,Ent.of3,Ent.of4,V,W3,↓reduceIte,seval,reduceCtorEq]
     try simp
   . have h3:0 < (iv ⟨off,hyst,trig⟩ s n).length:=List.length_pos_iff.2 h2;have h4:(0:Int) < (iv ⟨off,hyst,trig⟩ s n).length:=by omega
     delta c25 oO oN oA oM oS oK oL oV oC oI oX oB o1 o4 o5 o7 o8;simp (maxSteps:=9^7) -implicitDefEqProofs only[rv25,qK,dT,dS,iy,jU,dM,h,h2,h3,h4,ftE,zy,WU,Ent.of0,Ent.of1,Ent.of2,Ent.of3,Ent.of4,V,W3,↓reduceIte,seval,reduceCtorEq]
     try simp
 . delta c25 oO oN oA oM oS oK oL oV oC oI oX oB o1 o4 o5 o7 o8;simp (maxSteps:=9^7) -implicitDefEqProofs only[rv25,qK,dT,dS,iy,jU,dM,h,ftE,zR,yh,WU,Ent.of0,Ent.of1,Ent.of2,Ent.of3,Ent.of4,V,W3,↓reduceIte,seval,reduceCtorEq]
   try simp[h]
theorem TrgOk.get {r:Rul} {s n:List Int} (h:TrgOk r s n) {i:Nat} (hi:i < s.length):(-2000<=s.getD i 0/\s.getD i 0<=1000)/\(-2000<=n.getD i 0/\n.getD i 0<=1000)/\(-300<=r.off/\r.off<=300)/\(0<=r.hyst/\r.hyst<=300)/\(0<=r.trig/\r.trig<=40):=by
 have h1:=sV h.hl h.hln i hi;have h2:=h.hr;simp only[j4,zm,decide_eq_true_eq]at h2;exact⟨h1.1,h1.2,h2.1.1,h2.1.2,h2.2⟩
structure TickOk (r:Rul) (s n:List Int) (t:Int):Prop where
 ok:TrgOk r s n
 h0:0<=t
 h1:t < s.length
def pI (c:Int):Bool:=decide (97<=c/\c<=122) || decide (65<=c/\c<=90)
def badB (first:Bool) (c:Int):Bool:=!pI c && (first || (decide (c≠45) && (decide (c < 48) || decide (57 < c))))
def fO : Bool->List Int->Bool
 |_,[]=>true
 | first,c :: l=>!badB first c && fO false l
def byI (s:ByteArray):List Int:=s.data.toList.map fun b=>(b.toNat:Int)
def gy (s:ByteArray):Bool:=fO true (byI s) && decide (0 < s.size) && decide (s.size<=12)
theorem jO (s:ByteArray):(byI s).length=s.size:=by rw[byI,zy,Array.length_toList];rfl
theorem ri (s:ByteArray):jf s=(byI s).map fun n=>[C.s (.int .u8 n)]:=by simp[jf,byI]
theorem pR (s:ByteArray):(jf s).length=s.size:=by rw[ri,zy,jO]
theorem uh {s:ByteArray} {i:Nat} (h:i < s.size) (d:List C):(jf s).getD i d=[.s (.int .u8 ((byI s).getD i 0))]:=by
 rw[ri,zb,zb,zh];have:i < (byI s).length:=by rw[jO];exact h
 rw[ze this];rfl
theorem byI_get {s:ByteArray} {i:Nat} (h:i < s.size):((s.data.toList.getD i 0).toNat:Int)=(byI s).getD i 0:=by
 have h1:i < s.data.toList.length:=by rw[Array.length_toList];exact h
 rw[byI,zb,zb,zh,ze h1];rfl
theorem wv (s:ByteArray) (hs:s.size<=9223372036854775807):FC Tryz.prog 103 [enc s] [] (enc (gy s)) []:=by
 refine eh is103 (by simp) (fun cx hl=>dC [] 800 ?_);have h0:decide (s=⟨#[]⟩)=decide (s.size=0):=by
  rw[yH];simp only[decide_eq_true_eq];constructor
  . intro h;rw[h];rfl
  . intro h;obtain⟨d⟩:=s;have:d=#[]:=yL.1 h;rw[this]
 delta c103 oO oN oA oM oG oS oK oV oX oP oD o4 o9;simp (maxSteps:=9^7) -implicitDefEqProofs only[ph,hs,pR,WU,Ent.of0,Ent.of1,Ent.of2,Ent.of3,Ent.of4,V,W3,↓reduceIte,seval,reduceCtorEq];have hnb:gy s=(fO true (byI s) && (decide (¬ s.size=0) && decide (s.size<=12))):=by
  unfold gy;by_cases g:s.size=0
  . simp[g]
  . have:0 < s.size:=by omega
    simp[g,this]
 rw[hnb];generalize hB:fO true (byI s)=B;refine eN s.size (fun i=>[(9,.s (.int .i64 (i:Int)))]) (fun _=>[]) (fun i=>B=fO (decide (i=0)) ((byI s).drop i)) (by simp[hB]) ?_ (fun i hi hv=>dC [] 800 ?_)
 . simp (maxSteps:=9^7) -implicitDefEqProofs only[Ent.of0,Ent.of1,Ent.of2,Ent.of3,Ent.of4,V,W3,↓reduceIte,seval,reduceCtorEq]
   all_goals simp
 . by_cases h:i < s.size
   . have hi2:(i:Int) < (s.size:Int):=by omega
     have hg:=uh h [C.s (.int .u8 0)];have hi3:(decide ((i:Int)=0))=decide (i=0):=by simp
     rw[eg 0 (by rw[jO];exact h:i < (byI s).length),fO]at hv;generalize (byI s).getD i 0=c at *;have hnx:fO (decide (i+1=0)) ((byI s).drop (i+1))=fO false ((byI s).drop (i+1)):=by simp
     delta nK oO oN oA oM oG oR oS oK oL oI oX oP oH oB oD o9;simp (maxSteps:=9^7) -implicitDefEqProofs only[ph,hi2,h,pR,hg,InR,WU,Ent.of0,Ent.of1,Ent.of2,Ent.of3,Ent.of4,V,W3,↓reduceIte,seval,reduceCtorEq];clear h0 hnb hg hi3;have hb2:badB (decide (i=0)) c=decide (¬ ((97<=c/\c<=122)\/(65<=c/\c<=90))/\(i=0\/(c≠45/\(c < 48\/57 < c)))):=by
      rw[yH];simp only[badB,pI,zm,zV,yC,Bool.or_eq_false_iff,decide_eq_true_eq,decide_eq_false_iff_not];omega
     rw[hb2]at hv;have hvt:(¬ ((97<=c/\c<=122)\/(65<=c/\c<=90))/\(i=0\/(c≠45/\(c < 48\/57 < c))))->B=false:=fun hb=>by rw[hv,decide_eq_true hb];rfl
     have hvf:¬ (¬ ((97<=c/\c<=122)\/(65<=c/\c<=90))/\(i=0\/(c≠45/\(c < 48\/57 < c))))->B=fO false ((byI s).drop (i+1)):=fun hb=>by rw[hv,decide_eq_false hb];simp
     refine⟨by omega,?_⟩
     repeat' split
     all_goals first
      | (rw[hvt (by omega)];rfl)
      | exact⟨by omega,hvf (by omega),by omega⟩
   . have hi2:¬ (i:Int) < (s.size:Int):=by omega
     rw[zv (by rw[jO];omega)]at hv;simp only[fO]at hv;subst hv;by_cases g0:s.size=0
     . have g1:decide (s=⟨#[]⟩)=true:=by rw[h0];simp[g0]
       delta nK oO oN oA oM oG oR oS oK oL oI oX oP oH oB oD o9;simp (maxSteps:=9^7) -implicitDefEqProofs only[ph,hi2,g1,WU,Ent.of0,Ent.of1,Ent.of2,Ent.of3,Ent.of4,V,W3,↓reduceIte,seval,reduceCtorEq];simp[g0]
     . have g1:decide (s=⟨#[]⟩)=false:=by rw[h0];simp[g0]
       delta nK oO oN oA oM oG oR oS oK oL oI oX oP oH oB oD o9;simp (maxSteps:=9^7) -implicitDefEqProofs only[ph,hi2,g1,WU,Ent.of0,Ent.of1,Ent.of2,Ent.of3,Ent.of4,V,W3,↓reduceIte,seval,reduceCtorEq];simp[g0];omega
def uy : Ent Tryz.prog:=.of1 103 (fun s=>s.size<=9223372036854775807) (fun s:ByteArray=>enc (gy s)) (fun _=>trivial) (fun s h=>wv s h)
theorem vL (s:ByteArray) (hs:s.size<=9223372036854775807):FC Tryz.prog 108 [enc s] [] (enc (gy s)) []:=by
 refine eh is108 (by simp) (fun cx hl=>dC [] 800 ?_);by_cases g1:s.size < 1
 . have g1':(s.size:Int) < 1:=by omega
   have hn:gy s=false:=by
    unfold gy;have:¬ 0 < s.size:=by omega
    simp[this]
   rw[hn];delta c108 oO oN oA oM oG oS oK oV oI oX oH oB oD o9;simp (maxSteps:=9^7) -implicitDefEqProofs only[mF,g1',WU,Ent.of0,Ent.of1,Ent.of2,Ent.of3,Ent.of4,V,W3,↓reduceIte,seval,reduceCtorEq]
 by_cases g2:12 < s.size
 . have g1':¬ (s.size:Int) < 1:=by omega
   have g2':(12:Int) < s.size:=by omega
   have hn:gy s=false:=by
    unfold gy;have:¬ s.size<=12:=by omega
    simp[this]
   rw[hn];delta c108 oO oN oA oM oG oS oK oV oI oX oH oB oD o9;simp (maxSteps:=9^7) -implicitDefEqProofs only[mF,g1',g2',WU,Ent.of0,Ent.of1,Ent.of2,Ent.of3,Ent.of4,V,W3,↓reduceIte,seval,reduceCtorEq]
 have g1':¬ (s.size:Int) < 1:=by omega
 have g2':¬ (12:Int) < s.size:=by omega
 have hnb:gy s=fO true (byI s):=by
  unfold gy;have h1:0 < s.size:=by omega
  have h2:s.size<=12:=by omega
  simp[h1,h2]
 rw[hnb];generalize hB:fO true (byI s)=B;delta c108 oO oN oA oM oG oS oK oV oI oX oH oB oD o9;simp (maxSteps:=9^7) -implicitDefEqProofs only[mF,g1',g2',WU,Ent.of0,Ent.of1,Ent.of2,Ent.of3,Ent.of4,V,W3,↓reduceIte,seval,reduceCtorEq];refine eN s.size (fun i=>[(3,.s (.int .i64 (i:Int)))]) (fun _=>[]) (fun i=>B=fO (decide (i=0)) ((byI s).drop i)) (by simp[hB]) ?_ (fun i hi hv=>dC [] 800 ?_)
 . simp (maxSteps:=9^7) -implicitDefEqProofs only[Ent.of0,Ent.of1,Ent.of2,Ent.of3,Ent.of4,V,W3,↓reduceIte,seval,reduceCtorEq]
   all_goals simp
 . by_cases h:i < s.size
   . have hi2:(i:Int) < (s.size:Int):=by omega
     have hg:=byI_get h;rw[eg 0 (by rw[jO];exact h:i < (byI s).length),fO]at hv;generalize (byI s).getD i 0=c at *;have hnx:fO (decide (i+1=0)) ((byI s).drop (i+1))=fO false ((byI s).drop (i+1)):=by simp
     delta rk oO oN oA oM oG oR oS oK oI oX oP oH oB oD o9;simp (maxSteps:=9^7) -implicitDefEqProofs only[mF,hi2,h,hg,InR,WU,Ent.of0,Ent.of1,Ent.of2,Ent.of3,Ent.of4,V,W3,↓reduceIte,seval,reduceCtorEq];have hb2:badB (decide (i=0)) c=decide (¬ ((97<=c/\c<=122)\/(65<=c/\c<=90))/\(i=0\/(c≠45/\(c < 48\/57 < c)))):=by
      rw[yH];simp only[badB,pI,zm,zV,yC,Bool.or_eq_false_iff,decide_eq_true_eq,decide_eq_false_iff_not];omega
     rw[hb2]at hv;have hvt:(¬ ((97<=c/\c<=122)\/(65<=c/\c<=90))/\(i=0\/(c≠45/\(c < 48\/57 < c))))->B=false:=fun hb=>by rw[hv,decide_eq_true hb];rfl
     have hvf:¬ (¬ ((97<=c/\c<=122)\/(65<=c/\c<=90))/\(i=0\/(c≠45/\(c < 48\/57 < c))))->B=fO false ((byI s).drop (i+1)):=fun hb=>by rw[hv,decide_eq_false hb];simp
     repeat' first | (refine And.intro (by omega) ?_) | split
     all_goals first
      | (exact (hvt (by omega)).symm)
      | (rw[hvt (by omega)];rfl)
      | exact⟨hvf (by omega),by omega⟩
      | exact hvf (by omega)
      | (push_cast;rfl)
      | omega
   . have hi2:¬ (i:Int) < (s.size:Int):=by omega
     rw[zv (by rw[jO];omega)]at hv;simp only[fO]at hv;subst hv;delta rk oO oN oA oM oG oR oS oK oI oX oP oH oB oD o9;simp (maxSteps:=9^7) -implicitDefEqProofs only[mF,hi2,WU,Ent.of0,Ent.of1,Ent.of2,Ent.of3,Ent.of4,V,W3,↓reduceIte,seval,reduceCtorEq]
def rD : Ent Tryz.prog:=.of1 108 (fun s=>s.size<=9223372036854775807) (fun s:ByteArray=>enc (gy s)) (fun _=>trivial) (fun s h=>vL s h)
theorem sn (l:List ByteArray) (h:l.length<=1000000):FC Tryz.prog 98 [enc l] [] (enc l) []:=by
 refine eh is98 (by simp) (fun cx hl=>dC [] 800 ?_);delta c98 oO oA oM oX;simp (maxSteps:=9^7) -implicitDefEqProofs only[rv98,Ent.of0,Ent.of1,Ent.of2,Ent.of3,Ent.of4,V,W3,↓reduceIte,seval,reduceCtorEq];omega
def ent98 : Ent Tryz.prog:=.of1 98 (fun l=>l.length<=1000000) (fun l:List ByteArray=>enc l) (fun _=>trivial) (fun l h=>sn l h)
theorem ua (l:List ByteArray) (v:ByteArray):FC Tryz.prog 109 [enc l,enc v] [] (enc (l.any fun x=>decide (x=v))) []:=by
 refine eh is109 (by simp) (fun cx hl=>dC [] 800 ?_);simp only[V,W3,↓reduceIte,seval,reduceCtorEq]at hl;have hl1:=hl.list;generalize hB:(l.any fun x=>decide (x=v))=B;delta c109 oS oK oV oX o9;simp (maxSteps:=9^7) -implicitDefEqProofs only[qR,Ent.of0,Ent.of1,Ent.of2,Ent.of3,Ent.of4,V,W3,↓reduceIte,seval,reduceCtorEq];refine eN l.length (fun i=>[(5,.s (.int .i64 (i:Int)))]) (fun _=>[]) (fun i=>B=(l.drop i).any fun x=>decide (x=v)) (by simp[hB]) ?_ (fun i hi hv=>dC [] 800 ?_)
 . simp (maxSteps:=9^7) -implicitDefEqProofs only[Ent.of0,Ent.of1,Ent.of2,Ent.of3,Ent.of4,V,W3,↓reduceIte,seval,reduceCtorEq]
   all_goals simp
 . by_cases h:i < l.length
   . have hi2:(i:Int) < (l.length:Int):=by omega
     rw[eg ⟨#[]⟩ h,List.any_cons]at hv;cases hx:decide (l.getD i ⟨#[]⟩=v)
     all_goals
      rw[hx]at hv;delta rl oO oN oM oR oS oK oL oI oX oB o4 o9;simp (maxSteps:=9^7) -implicitDefEqProofs only[qR,hi2,h,hx,InR,WU,Ent.of0,Ent.of1,Ent.of2,Ent.of3,Ent.of4,V,W3,↓reduceIte,seval,reduceCtorEq];simp at hv;simp[hv]
      try omega
   . have hi2:¬ (i:Int) < (l.length:Int):=by omega
     rw[zv (by omega)]at hv;delta rl oO oN oM oR oS oK oL oI oX oB o4 o9;simp (maxSteps:=9^7) -implicitDefEqProofs only[qR,hi2,WU,Ent.of0,Ent.of1,Ent.of2,Ent.of3,Ent.of4,V,W3,↓reduceIte,seval,reduceCtorEq];simp[hv]
def rE : Ent Tryz.prog:=.of2 109 (fun _ _=>True) (fun (l:List ByteArray) (v:ByteArray)=>enc (l.any fun x=>decide (x=v))) (fun _ _=>trivial) (fun l v _=>ua l v)
def i7 {α:Type} (p:α->Bool) (l:List α):Int:=match l.findIdx? p with | some i=>(i:Int) | none=>-1
theorem nh {α:Type} (p:α->Bool) (l:List α):decide (0<=i7 p l)=l.any p:=by
 unfold i7;cases hq:l.findIdx? p with
 | none=>
  rw[List.findIdx?_eq_none_iff]at hq;have:l.any p=false:=by simpa using hq
  simp[this]
 | some i=>
  rw[List.findIdx?_eq_some_iff_getElem]at hq;obtain⟨h1,h2,_⟩:=hq;have:l.any p=true:=List.any_eq_true.2 ⟨_,yy h1,h2⟩;simp[this]
theorem ni {α:Type} {p:α->Bool} {l:List α} {i:Nat} (d:α) (h:i < l.length) (hp:p (l.getD i d)=true) (hb:∀ j,j < i->p (l.getD j d)=false):i7 p l=i:=by
 have:l.findIdx? p=some i:=by
  rw[List.findIdx?_eq_some_iff_getElem];rw[zb,ze h]at hp;refine⟨h,by simpa using hp,fun j hj=>?_⟩;have:=hb j hj;rw[zb,ze (by omega)]at this;simpa using this
 simp[i7,this]
theorem l6 {α:Type} {p:α->Bool} {l:List α} (d:α) (hb:∀ j,j < l.length->p (l.getD j d)=false):i7 p l=-1:=by
 have:l.findIdx? p=none:=by
  rw[List.findIdx?_eq_none_iff];intro x hx;obtain⟨j,hj,rfl⟩:=List.getElem_of_mem hx;have:=hb j hj;rwa[zb,ze hj]at this
 simp[i7,this]
theorem vJ (l:List ByteArray) (v:ByteArray):FC Tryz.prog 140 [enc l,enc v] [] (enc (i7 (fun x=>decide (v=x)) l)) []:=by
 refine eh is140 (by simp) (fun cx hl=>dC [] 800 ?_);simp only[V,W3,↓reduceIte,seval,reduceCtorEq]at hl;have hl1:=hl.list;delta c140 oM oS oK oV oX o4;simp (maxSteps:=9^7) -implicitDefEqProofs only[pk,Ent.of0,Ent.of1,Ent.of2,Ent.of3,Ent.of4,V,W3,↓reduceIte,seval,reduceCtorEq];refine eN l.length (fun i=>[(8,.s (.int .i64 (i:Int)))]) (fun _=>[]) (fun i=>∀ j,j < i->decide (v=l.getD j ⟨#[]⟩)=false) (by omega) ?_ (fun i hi hv=>dC [] 800 ?_)
 . simp (maxSteps:=9^7) -implicitDefEqProofs only[Ent.of0,Ent.of1,Ent.of2,Ent.of3,Ent.of4,V,W3,↓reduceIte,seval,reduceCtorEq]
   all_goals simp
 . by_cases h:i < l.length
   . have hi2:(i:Int) < (l.length:Int):=by omega
     cases hx:decide (v=l.getD i ⟨#[]⟩)
     . delta nL oO oN oM oR oS oK oL oI oX oB;simp (maxSteps:=9^7) -implicitDefEqProofs only[pk,hi2,h,hx,InR,WU,Ent.of0,Ent.of1,Ent.of2,Ent.of3,Ent.of4,V,W3,↓reduceIte,seval,reduceCtorEq];refine⟨by omega,by omega,fun j hj=>?_,by omega⟩;by_cases hj2:j=i
       . rw[hj2];simpa using hx
       . simpa using hv j (by omega)
     . have:=ni (p:=fun x=>decide (v=x)) ⟨#[]⟩ h hx hv;delta nL oO oN oM oR oS oK oL oI oX oB;simp (maxSteps:=9^7) -implicitDefEqProofs only[pk,hi2,h,hx,InR,WU,Ent.of0,Ent.of1,Ent.of2,Ent.of3,Ent.of4,V,W3,↓reduceIte,seval,reduceCtorEq];simp[this]
   . have hi2:¬ (i:Int) < (l.length:Int):=by omega
     have:=l6 (p:=fun x=>decide (v=x)) (l:=l) ⟨#[]⟩ (fun j hj=>hv j (by omega));delta nL oO oN oM oR oS oK oL oI oX oB;simp (maxSteps:=9^7) -implicitDefEqProofs only[pk,hi2,WU,Ent.of0,Ent.of1,Ent.of2,Ent.of3,Ent.of4,V,W3,↓reduceIte,seval,reduceCtorEq];simp[this]
def uD : Ent Tryz.prog:=.of2 140 (fun _ _=>True) (fun (l:List ByteArray) (v:ByteArray)=>enc (i7 (fun x=>decide (v=x)) l)) (fun _ _=>trivial) (fun l v _=>vJ l v)
theorem sm (l:List ByteArray) (v:ByteArray):FC Tryz.prog 104 [enc l,enc v] [] (enc (l.any fun x=>decide (v=x))) []:=by
 refine eh is104 (by simp) (fun cx hl=>dC [uD] 800 ?_);rw[<- nh];delta c104 oO oN oM oC oX oB o9;simp (maxSteps:=9^7) -implicitDefEqProofs only[rv104,uD,Ent.of0,Ent.of1,Ent.of2,Ent.of3,Ent.of4,V,W3,↓reduceIte,seval,reduceCtorEq]
def uz : Ent Tryz.prog:=.of2 104 (fun _ _=>True) (fun (l:List ByteArray) (v:ByteArray)=>enc (l.any fun x=>decide (v=x))) (fun _ _=>trivial) (fun l v _=>sm l v)
theorem p9 (a b:Gs):(decide (a.re=b.re) && decide (a.im=b.im))=decide (a=b):=by
 rw[yH];cases a;cases b;simp
theorem vH (l:List Gs) (v:Gs):FC Tryz.prog 141 [enc l,enc v] [] (enc (i7 (fun x=>decide (v=x)) l)) []:=by
 refine eh is141 (by simp) (fun cx hl=>dC [] 800 ?_);simp only[V,W3,↓reduceIte,seval,reduceCtorEq]at hl;have hl1:=hl.list;delta c141 oM oS oK oV oX o4 o7;simp (maxSteps:=9^7) -implicitDefEqProofs only[pl,Ent.of0,Ent.of1,Ent.of2,Ent.of3,Ent.of4,V,W3,↓reduceIte,seval,reduceCtorEq];refine eN l.length (fun i=>[(8,.s (.int .i64 (i:Int)))]) (fun _=>[]) (fun i=>∀ j,j < i->decide (v=l.getD j ⟨0,0⟩)=false) (by omega) ?_ (fun i hi hv=>dC [] 800 ?_)
 . simp (maxSteps:=9^7) -implicitDefEqProofs only[Ent.of0,Ent.of1,Ent.of2,Ent.of3,Ent.of4,V,W3,↓reduceIte,seval,reduceCtorEq]
   all_goals simp
 . by_cases h:i < l.length
   . have hi2:(i:Int) < (l.length:Int):=by omega
     have hgd:=p9 v (l.getD i ⟨0,0⟩);cases hx:decide (v=l.getD i ⟨0,0⟩)
     . rw[hx]at hgd;delta nM oO oN oA oM oT oR oQ oS oK oI oX oB o2 o5;simp (maxSteps:=9^7) -implicitDefEqProofs only[pl,hi2,h,hx,hgd,zZ,InR,WU,Ent.of0,Ent.of1,Ent.of2,Ent.of3,Ent.of4,V,W3,↓reduceIte,seval,reduceCtorEq];refine⟨by omega,by omega,fun j hj=>?_,by omega⟩;by_cases hj2:j=i
       . rw[hj2];simpa using hx
       . simpa using hv j (by omega)
     . rw[hx]at hgd;have:=ni (p:=fun x=>decide (v=x)) ⟨0,0⟩ h hx hv;delta nM oO oN oA oM oT oR oQ oS oK oI oX oB o2 o5;simp (maxSteps:=9^7) -implicitDefEqProofs only[pl,hi2,h,hx,hgd,zZ,InR,WU,Ent.of0,Ent.of1,Ent.of2,Ent.of3,Ent.of4,V,W3,↓reduceIte,seval,reduceCtorEq];simp[this]
   . have hi2:¬ (i:Int) < (l.length:Int):=by omega
     have:=l6 (p:=fun x=>decide (v=x)) (l:=l) ⟨0,0⟩ (fun j hj=>hv j (by omega));delta nM oO oN oA oM oT oR oQ oS oK oI oX oB o2 o5;simp (maxSteps:=9^7) -implicitDefEqProofs only[pl,hi2,WU,Ent.of0,Ent.of1,Ent.of2,Ent.of3,Ent.of4,V,W3,↓reduceIte,seval,reduceCtorEq];simp[this]
def uE : Ent Tryz.prog:=.of2 141 (fun _ _=>True) (fun (l:List Gs) (v:Gs)=>enc (i7 (fun x=>decide (v=x)) l)) (fun _ _=>trivial) (fun l v _=>vH l v)
theorem sj (l:List Gs) (v:Gs):FC Tryz.prog 106 [enc l,enc v] [] (enc (l.any fun x=>decide (v=x))) []:=by
 refine eh is106 (by simp) (fun cx hl=>dC [uE] 800 ?_);rw[<- nh];delta c106 oO oN oM oC oX oB o5 o7 o9;simp (maxSteps:=9^7) -implicitDefEqProofs only[rv106,uE,Ent.of0,Ent.of1,Ent.of2,Ent.of3,Ent.of4,V,W3,↓reduceIte,seval,reduceCtorEq]
def lS : Ent Tryz.prog:=.of2 106 (fun _ _=>True) (fun (l:List Gs) (v:Gs)=>enc (l.any fun x=>decide (v=x))) (fun _ _=>trivial) (fun l v _=>sj l v)
structure Nw where
 cells:List ByteArray
 nb:List Gs
 limit:Int
instance : DatL Nw where
 sz:=3
 agg:=true
 cells n:=[.sl 1 (n.cells.map Dat.cells),.sl 2 (n.nb.map Dat.cells),.s (.int .i64 n.limit)]
 dec | [.sl 1 a,.sl 2 b,.s (.int .i64 c)]=>(fh a).bind fun a'=>(fh b).map fun b'=>⟨a',b',c⟩ | _=>none
 ok:=by
  intro l a h;split at h
  . simp only[zk,za]at h;obtain⟨t',h1,s',h2,rfl⟩:=h;rw[gj h1,gj h2]
  . cases h
 data:=fun a=>rfl
 one:=fun h=>by cases h
 dec_cells:=fun a=>by simp[fq]
theorem ed (n:Nw):enc n=.agg [.sl 1 (n.cells.map Dat.cells),.sl 2 (n.nb.map Dat.cells),.s (.int .i64 n.limit)]:=rfl
theorem vW (n:Nw):Dat.cells n=[.sl 1 (n.cells.map Dat.cells),.sl 2 (n.nb.map Dat.cells),.s (.int .i64 n.limit)]:=rfl
theorem sO (a:List (List C)) (b:List (List C)) (c:Int):fy (.agg [C.sl 1 a,.sl 2 b,.s (.int .i64 c)])=(fh a).bind fun a'=>(fh b).map fun b'=>(⟨a',b',c⟩:Nw):=by
 unfold fy;have:Dat.dec (α:=Nw) [C.sl 1 a,.sl 2 b,.s (.int .i64 c)]=(fh a).bind fun a'=>(fh b).map fun b'=>(⟨a',b',c⟩:Nw):=rfl
 simp only[this];rw[if_pos (show (Dat.agg Nw)=true from rfl)];cases (fh a).bind fun a'=>(fh b).map fun b'=>(⟨a',b',c⟩:Nw) <;> rfl
structure NwS (n:Nw):Prop where
 c:n.cells.length<=1000000
 b:n.nb.length<=1000000
 s:∀ x∈n.cells,x.size<=1000000
theorem NwS.get {n:Nw} (h:NwS n) {i:Nat} (hi:i < n.cells.length):(n.cells.getD i ⟨#[]⟩).size<=9223372036854775807:=by
 rw[zb,ze hi];have:=h.s _ (yy hi);simp only[zN];omega
def isC (n:Nw) (c:Int):Bool:=decide (0<=c/\c<=(n.cells.length:Int) - 1)
theorem isC_c (n:Nw) (c:Int) (h:NwS n):FC Tryz.prog 99 [enc n,enc c] [] (enc (isC n c)) []:=by
 have hb:=h.c;obtain⟨cs,nb,lim⟩:=n;simp only at hb;refine dD [] is99 (by simp) trivial trivial trivial trivial (fun cx _ hl _=>dC [oa] 800 ?_);delta c99 oO oN oM oF oL oC oX oB o4 o7 o9;simp (maxSteps:=9^7) -implicitDefEqProofs only[rv99,oa,ed,InR,isC,Ent.of0,Ent.of1,Ent.of2,Ent.of3,Ent.of4,V,W3,↓reduceIte,seval,reduceCtorEq];omega
def my : Ent Tryz.prog:=.of2 99 (fun n _=>NwS n) (fun (n:Nw) (c:Int)=>enc (isC n c)) (fun _ _=>trivial) (fun n c h=>isC_c n c h)
theorem wu (n:Nw) (c:Int) (h:NwS n):FC Tryz.prog 105 [enc c,.ptr 100000 0] [(100000,.box (Dat.cells n))] (enc (isC n c)) [(100000,.box (Dat.cells n))]:=by
 have hb:=h.c;obtain⟨cs,nb,lim⟩:=n;simp only at hb;refine dD [] is105 (by simp) (by simp[bk]) (by simp[an,ag,av]) (by simp[an,ag,av]) (by simp[aB,lk]) (fun cx _ _ _=>dC [eZ] 800 ?_);delta c105 oO oN oM oF oL oC oX oB o4 o9;simp (maxSteps:=9^7) -implicitDefEqProofs only[rv105,eZ,vW,InR,isC,Ent.of0,Ent.of1,Ent.of2,Ent.of3,Ent.of4,V,W3,↓reduceIte,seval,reduceCtorEq];omega
def nV (n:Nw) (h:NwS n):Ent Tryz.prog where
 id:=105
 sp:=fun _ _=>none
 ok:=by intro _ _ _ _ _ _ h;cases h
 kp:=fun args chs=>match args,chs with
  |[.s (.int .i64 c),.ptr k o],[(k',.box [.sl 1 a,.sl 2 b,.s (.int .i64 l)])]=>some (k=100000/\o=0/\k'=100000/\a=n.cells.map Dat.cells/\b=n.nb.map Dat.cells/\l=n.limit,enc (isC n c))
  |_,_=>none
 kpok:=by
  intro args chs p r hs hp;split at hs
  . cases hs;obtain⟨rfl,rfl,rfl,rfl,rfl,rfl⟩:=hp;exact⟨wu n _ h,rfl,trivial⟩
  . cases hs
def fJ (all:List ByteArray):Nat->List ByteArray->Option (Nat×Int)
 |_,[]=>none
 | i,c :: l=>if gy c=false then some (i,4)else if ((all.take i).any fun x=>decide (c=x))=true then some (i,5)else fJ all (i+1) l
def nbE (n:Nw):Nat->List Gs->Option (Nat×Int)
 |_,[]=>none
 | i,p :: l=>if (isC n p.re && isC n p.im)=false then some (i,6)else if ¬ p.re < p.im then some (i,9)else if ((n.nb.take i).any fun x=>decide (p=x))=true then some (i,26)else nbE n (i+1) l
def limE (n:Nw):Int:=if 1<=n.limit/\n.limit<=100000 then 0 else 2
def eW (n:Nw):Nat×Int:=
 if n.cells.length=0 then (0,10)else if 6 < n.cells.length then (0,8)else
 match fJ n.cells 0 n.cells with
 | some q=>q
 | none=>match nbE n 0 n.nb with
  | some q=>q
  | none=>(0,limE n)
def netI (n:Nw):Int:=((eW n).1:Int)
def me (n:Nw):C:=.tup [enc (netI n),enc (eW n).2]
theorem pv (n:Nw) (h:NwS n):FC Tryz.prog 49 [enc n] [] (me n) []:=by
 have hbc:=h.c;have hbb:=h.b;have hgs:=fun i hi=>h.get (i:=i) hi
 have hcell:=nV n h;generalize hR:eW n=R;have hrR:me n=.tup [.s (.int .i64 (R.1:Int)),.s (.int .i64 R.2)]:=by rw[<- hR];rfl
 rw[hrR];obtain⟨cs,nb,lim⟩:=n;simp only at hbc hbb hgs;refine dD [] is49 (by simp) trivial trivial trivial trivial (fun cx _ hl _=>dC [dT,dS] 800 ?_);by_cases h1:0 < cs.length
 rotate_left
 . have h1':¬ (0:Int) < cs.length:=by omega
   have h0:cs.length=0:=by omega
   have hRe:R=(0,10):=by rw[<- hR,eW];simp[h0]
   by_cases h2:(cs.length:Int)<=6
   . delta c49 oO oN oA oM oT oQ oS oK oF oL oV oC oI oX oB o1 o4 o7;simp (maxSteps:=9^7) -implicitDefEqProofs only[rv49,dT,dS,dM,ed,h1',h2,hRe,WU,Ent.of0,Ent.of1,Ent.of2,Ent.of3,Ent.of4,V,W3,↓reduceIte,seval,reduceCtorEq]
     try simp
   . omega
 have h1':(0:Int) < cs.length:=by omega
 have h0:¬ cs.length=0:=by omega
 by_cases h2:cs.length<=6
 rotate_left
 . have h2':¬ (cs.length:Int)<=6:=by omega
   have h3:6 < cs.length:=by omega
   have hRe:R=(0,8):=by rw[<- hR,eW];simp[h0,h3]
   delta c49 oO oN oA oM oT oQ oS oK oF oL oV oC oI oX oB o1 o4 o7;simp (maxSteps:=9^7) -implicitDefEqProofs only[rv49,dT,dS,dM,ed,h1',h2',hRe,WU,Ent.of0,Ent.of1,Ent.of2,Ent.of3,Ent.of4,V,W3,↓reduceIte,seval,reduceCtorEq]
   try simp
 have h2':(cs.length:Int)<=6:=by omega
 have h3:¬ 6 < cs.length:=by omega
 have hRe:R=(match fJ cs 0 cs with | some q=>q | none=>match nbE ⟨cs,nb,lim⟩ 0 nb with | some q=>q | none=>(0,limE ⟨cs,nb,lim⟩)):=by rw[<- hR,eW];simp only[h0,h3,if_false]
 clear hR;delta c49 oO oN oA oM oT oQ oS oK oF oL oV oC oI oX oB o1 o4 o7;simp (maxSteps:=9^7) -implicitDefEqProofs only[rv49,dT,dS,dM,ed,h1',h2',not_true_eq_false,WU,Ent.of0,Ent.of1,Ent.of2,Ent.of3,Ent.of4,V,W3,↓reduceIte,seval,reduceCtorEq];generalize hN:(⟨cs,nb,lim⟩:Nw)=n at *;have hNc:n.cells=cs/\n.nb=nb/\n.limit=lim:=by rw[<- hN];exact⟨rfl,rfl,rfl⟩
 have hmt:∀ i,List.take i (List.map Dat.cells cs)=List.map Dat.cells (cs.take i):=fun i=>List.map_take.symm
 have hmt2:∀ i,List.take i (List.map Dat.cells nb)=List.map Dat.cells (nb.take i):=fun i=>List.map_take.symm
 refine eN cs.length (fun i=>[(30,.s (.int .i64 (i:Int)))]) (fun _=>[]) (fun i=>fJ cs 0 cs=fJ cs i (cs.drop i)) rfl ?_ (fun i hi hv=>dC [uy,dT,dS,uz] 800 ?_)
 . simp (maxSteps:=9^7) -implicitDefEqProofs only[Ent.of0,Ent.of1,Ent.of2,Ent.of3,Ent.of4,V,W3,↓reduceIte,seval,reduceCtorEq]
   all_goals simp
 . by_cases h4:i < cs.length
   . have hi2:(i:Int) < (cs.length:Int):=by omega
     have hname:=hgs i h4;have hi0:(0:Int)<=i:=by omega
     have hi5:(i:Int)<=cs.length:=by omega
     rw[eg ⟨#[]⟩ h4,fJ]at hv;cases hx:gy (cs.getD i ⟨#[]⟩) <;> cases hy:((cs.take i).any fun x=>decide (cs.getD i ⟨#[]⟩=x))
     all_goals
      simp only[hx,hy,if_true,if_false,zr,ym]at hv;have hRe2:=hRe;rw[hv]at hRe2
      try simp only at hRe2
      delta c49l1 oO oN oA oM oT oR oQ oS oK oF oL oC oI oX oB o1;simp (maxSteps:=9^7) -implicitDefEqProofs only[uy,dT,dS,uz,dM,hi2,hi0,hi5,h4,hname,hmt,hx,hy,z5,Int.toNat_zero,yB,InR,not_true_eq_false,WU,Ent.of0,Ent.of1,Ent.of2,Ent.of3,Ent.of4,V,W3,↓reduceIte,seval,reduceCtorEq]
      first | (rw[hRe2];done) | (rw[hRe2];simp;done) | exact⟨by omega,hv,by omega⟩
   . have hi2:¬ (i:Int) < (cs.length:Int):=by omega
     rw[zv (by omega),fJ]at hv;rw[hv]at hRe;simp only at hRe;delta c49l1 oO oN oA oM oT oR oQ oS oK oF oL oC oI oX oB o1;simp (maxSteps:=9^7) -implicitDefEqProofs only[hi2,WU,Ent.of0,Ent.of1,Ent.of2,Ent.of3,Ent.of4,V,W3,↓reduceIte,seval,reduceCtorEq];refine eN nb.length (fun i=>[(57,.s (.int .i64 (i:Int)))]) (fun _=>[]) (fun i=>nbE n 0 nb=nbE n i (nb.drop i)) rfl ?_ (fun i hi hw=>dC [nV n h,dT,dS,lS,eZ] 800 ?_)
     . simp (maxSteps:=9^7) -implicitDefEqProofs only[Ent.of0,Ent.of1,Ent.of2,Ent.of3,Ent.of4,V,W3,↓reduceIte,seval,reduceCtorEq]
       all_goals simp
     . by_cases h5:i < nb.length
       . have hi2:(i:Int) < (nb.length:Int):=by omega
         have hi0:(0:Int)<=i:=by omega
         have hi5:(i:Int)<=nb.length:=by omega
         have hi6:i<=nb.length:=by omega
         rw[eg ⟨0,0⟩ h5,nbE,hNc.2.1]at hw;delta c49l2 oO oN oA oM oT oG oR oQ oS oK oF oL oC oW oI oX oP oB oD oJ o1 o2 o5;simp (maxSteps:=9^7) -implicitDefEqProofs only[nV,dT,dS,lS,dM,hi2,hi0,hi5,hi6,h5,hmt,hmt2,hNc,z5,Int.toNat_zero,yB,InR,not_true_eq_false,WU,Ent.of0,Ent.of1,Ent.of2,Ent.of3,Ent.of4,V,W3,↓reduceIte,seval,reduceCtorEq];cases hx:isC n (nb.getD i ⟨0,0⟩).re <;> cases hy:isC n (nb.getD i ⟨0,0⟩).im <;> by_cases hq:(nb.getD i ⟨0,0⟩).re < (nb.getD i ⟨0,0⟩).im <;> cases hz:((nb.take i).any fun x=>decide (nb.getD i ⟨0,0⟩=x))
         all_goals
          simp only[hx,hy,hz,hq,zZ,yd,zY,z7,if_true,if_false,not_true_eq_false,not_false_eq_true,zr,ym]at hw;have hRe2:=hRe;rw[hw]at hRe2
          try simp only at hRe2
          simp only[hx,hy,hz,hq,if_true,if_false,not_true_eq_false,not_false_eq_true,zr,ym]
          first | (rw[hRe2];simp;done) | exact⟨by omega,hw,by omega⟩ | (simp;exact⟨by omega,hw⟩)
       . have hi2:¬ (i:Int) < (nb.length:Int):=by omega
         rw[zv (by omega),nbE]at hw;rw[hw]at hRe;simp only at hRe;delta c49l2 oO oN oA oM oT oG oR oQ oS oK oF oL oC oW oI oX oP oB oD oJ o1 o2 o5;simp (maxSteps:=9^7) -implicitDefEqProofs only[nV,dS,lS,eZ,dT,hi2,WU,Ent.of0,Ent.of1,Ent.of2,Ent.of3,Ent.of4,V,W3,↓reduceIte,seval,reduceCtorEq];rw[hRe,limE,hNc.2.2];by_cases h6:1<=lim/\lim<=100000 <;> simp[h6]
def ent49 : Ent Tryz.prog:=.of1 49 NwS me (fun _=>⟨trivial,trivial,trivial⟩) pv
theorem nB (n:Nw) (h:NwS n):FC Tryz.prog 51 [enc n] [] (me n) []:=by
 have hbc:=h.c;have hbb:=h.b;have hgs:=fun i hi=>h.get (i:=i) hi
 generalize hR:eW n=R;have hrR:me n=.tup [.s (.int .i64 (R.1:Int)),.s (.int .i64 R.2)]:=by rw[<- hR];rfl
 rw[hrR];obtain⟨cs,nb,lim⟩:=n;simp only at hbc hbb hgs;refine dD [] is51 (by simp) trivial trivial trivial trivial (fun cx _ hl _=>dC [] 800 ?_);by_cases h1:cs.length=0
 . have h1':(cs.length:Int)=0:=by omega
   have hRe:R=(0,10):=by rw[<- hR,eW];simp[h1]
   delta c51 oO oN oA oS oK oF oL oV oC oI oX oB o4 o7;simp (maxSteps:=9^7) -implicitDefEqProofs only[rv51,ed,h1',hRe,WU,Ent.of0,Ent.of1,Ent.of2,Ent.of3,Ent.of4,V,W3,↓reduceIte,seval,reduceCtorEq]
   try simp
 have h1':¬ (cs.length:Int)=0:=by omega
 by_cases h2:6 < cs.length
 . have h2':(6:Int) < cs.length:=by omega
   have hRe:R=(0,8):=by rw[<- hR,eW];simp[h1,h2]
   delta c51 oO oN oA oS oK oF oL oV oC oI oX oB o4 o7;simp (maxSteps:=9^7) -implicitDefEqProofs only[rv51,ed,h1',h2',hRe,WU,Ent.of0,Ent.of1,Ent.of2,Ent.of3,Ent.of4,V,W3,↓reduceIte,seval,reduceCtorEq]
   try simp
 have h2':¬ (6:Int) < cs.length:=by omega
 have hRe:R=(match fJ cs 0 cs with | some q=>q | none=>match nbE ⟨cs,nb,lim⟩ 0 nb with | some q=>q | none=>(0,limE ⟨cs,nb,lim⟩)):=by rw[<- hR,eW];simp only[h1,h2,if_false] <;> rfl
 clear hR;delta c51 oO oN oA oS oK oF oL oV oC oI oX oB o4 o7;simp (maxSteps:=9^7) -implicitDefEqProofs only[rv51,ed,h1',h2',not_true_eq_false,WU,Ent.of0,Ent.of1,Ent.of2,Ent.of3,Ent.of4,V,W3,↓reduceIte,seval,reduceCtorEq];generalize hN:(⟨cs,nb,lim⟩:Nw)=n at *;have hNc:n.cells=cs/\n.nb=nb/\n.limit=lim:=by rw[<- hN];exact⟨rfl,rfl,rfl⟩
 have hmt:∀ i,List.take i (List.map Dat.cells cs)=List.map Dat.cells (cs.take i):=fun i=>List.map_take.symm
 refine eN cs.length (fun i=>[(4,.s (.int .i64 (i:Int)))]) (fun _=>[]) (fun i=>fJ cs 0 cs=fJ cs i (cs.drop i)) rfl ?_ (fun i hi hv=>dC [rD,rE] 800 ?_)
 . simp (maxSteps:=9^7) -implicitDefEqProofs only[Ent.of0,Ent.of1,Ent.of2,Ent.of3,Ent.of4,V,W3,↓reduceIte,seval,reduceCtorEq]
   all_goals simp
 . by_cases h4:i < cs.length
   . have hi2:(i:Int) < (cs.length:Int):=by omega
     have hname:=hgs i h4;have hi0:(0:Int)<=i:=by omega
     have hi5:(i:Int)<=cs.length:=by omega
     rw[eg ⟨#[]⟩ h4,fJ]at hv;have han:((cs.take i).any fun x=>decide (x=cs.getD i ⟨#[]⟩))=((cs.take i).any fun x=>decide (cs.getD i ⟨#[]⟩=x)):=by
      congr 1;funext x;simp[eq_comm]
     cases hx:gy (cs.getD i ⟨#[]⟩) <;> cases hy:((cs.take i).any fun x=>decide (cs.getD i ⟨#[]⟩=x))
     all_goals
      rw[hy]at han;simp only[hx,hy,if_true,if_false,zr,ym]at hv;have hRe2:=hRe;rw[hv]at hRe2
      try simp only at hRe2
      delta c51l1 oO oN oA oM oT oR oQ oS oK oF oL oV oC oI oX oB o4;simp (maxSteps:=9^7) -implicitDefEqProofs only[rD,rE,hi2,hi0,hi5,h4,hname,hmt,hx,han,z5,Int.toNat_zero,yB,InR,not_true_eq_false,WU,Ent.of0,Ent.of1,Ent.of2,Ent.of3,Ent.of4,V,W3,↓reduceIte,seval,reduceCtorEq]
      first | (rw[hRe2];done) | (rw[hRe2];simp;done) | exact⟨by omega,hv,by omega⟩
   . have hi2:¬ (i:Int) < (cs.length:Int):=by omega
     rw[zv (by omega),fJ]at hv;rw[hv]at hRe;simp only at hRe;delta c51l1 oO oN oA oM oT oR oQ oS oK oF oL oV oC oI oX oB o4;simp (maxSteps:=9^7) -implicitDefEqProofs only[rD,rE,hi2,WU,Ent.of0,Ent.of1,Ent.of2,Ent.of3,Ent.of4,V,W3,↓reduceIte,seval,reduceCtorEq];refine eN nb.length (fun i=>[(5,.s (.int .i64 (i:Int)))]) (fun _=>[]) (fun i=>nbE n 0 nb=nbE n i (nb.drop i)) rfl ?_ (fun i hi hw=>dC [my,oa] 800 ?_)
     . simp (maxSteps:=9^7) -implicitDefEqProofs only[Ent.of0,Ent.of1,Ent.of2,Ent.of3,Ent.of4,V,W3,↓reduceIte,seval,reduceCtorEq]
       all_goals simp
     . by_cases h5:i < nb.length
       . have hi2:(i:Int) < (nb.length:Int):=by omega
         have hi0:(0:Int)<=i:=by omega
         have hi5:(i:Int)<=nb.length:=by omega
         have hi6:i<=nb.length:=by omega
         have hdn:fy (.agg [C.sl 1 (List.map Dat.cells cs),.sl 2 (List.map Dat.cells nb),.s (.int .i64 lim)])=some n:=by
          rw[sO,fq,fq,<- hN];rfl
         rw[eg ⟨0,0⟩ h5,nbE,hNc.2.1]at hw;cases hx:isC n (nb.getD i ⟨0,0⟩).re <;> cases hy:isC n (nb.getD i ⟨0,0⟩).im <;> by_cases hq:(nb.getD i ⟨0,0⟩).re < (nb.getD i ⟨0,0⟩).im
         all_goals
          have hq2:(nb.getD i ⟨0,0⟩).im<=(nb.getD i ⟨0,0⟩).re↔¬ (nb.getD i ⟨0,0⟩).re < (nb.getD i ⟨0,0⟩).im:=by omega
          simp only[hx,hy,hq,zZ,yd,zY,z7,if_true,if_false,not_true_eq_false,not_false_eq_true,zr,ym]at hw;have hRe2:=hRe;rw[hw]at hRe2
          try simp only at hRe2
          delta c51l3 oO oN oA oM oG oR oS oK oF oL oV oC oW oI oX oH oB oJ o2 o4 o5;simp (maxSteps:=9^7) -implicitDefEqProofs only[my,oa,hi2,hi0,hi5,hi6,h5,hdn,h,hx,hy,hq,hq2,hNc,z5,Int.toNat_zero,yB,InR,not_true_eq_false,WU,Ent.of0,Ent.of1,Ent.of2,Ent.of3,Ent.of4,V,W3,↓reduceIte,seval,reduceCtorEq]
          try (rw[hRe2];simp;done)
         generalize hp:nb.getD i ⟨0,0⟩=p at *;refine eN i (fun j=>[(7,.s (.int .i64 (j:Int)))]) (fun _=>[]) (fun j=>((nb.take i).any fun x=>decide (p=x))=((nb.drop j).take (i - j)).any fun x=>decide (p=x)) (by simp) ?_ (fun j hj hu=>dC [] 800 ?_)
         . simp (maxSteps:=9^7) -implicitDefEqProofs only[Ent.of0,Ent.of1,Ent.of2,Ent.of3,Ent.of4,V,W3,↓reduceIte,seval,reduceCtorEq]
           all_goals simp
         . by_cases h6:j < i
           . have hj2:(j:Int) < i:=by omega
             have hj3:(j:Int) < nb.length:=by omega
             have hj4:j < nb.length:=by omega
             have hj0:(0:Int)<=j:=by omega
             have hgd:=p9 (nb.getD j ⟨0,0⟩) p;have hst:(nb.drop j).take (i - j)=nb.getD j ⟨0,0⟩ :: (nb.drop (j+1)).take (i - (j+1)):=by
              rw[eg ⟨0,0⟩ hj4,show i - j=(i - (j+1))+1 by omega,yD]
             rw[hst,List.any_cons]at hu;by_cases hx2:nb.getD j ⟨0,0⟩=p
             . rw[decide_eq_true hx2]at hgd;rw[hx2,decide_eq_true (rfl:p=p),yz]at hu;rw[if_pos hu]at hRe2;simp only at hRe2;delta qH oO oN oA oM oT oR oQ oS oK oF oL oV oI oX oB o2 o5;simp (maxSteps:=9^7) -implicitDefEqProofs only[hj2,hj3,hj4,hj0,h5,hi2,hi0,hgd,zZ,z5,InR,not_true_eq_false,WU,Ent.of0,Ent.of1,Ent.of2,Ent.of3,Ent.of4,V,W3,↓reduceIte,seval,reduceCtorEq];rw[hRe2];try simp
             . rw[decide_eq_false hx2]at hgd;rw[decide_eq_false (fun e=>hx2 e.symm),zF]at hu;delta qH oO oN oA oM oT oR oQ oS oK oF oL oV oI oX oB o2 o5;simp (maxSteps:=9^7) -implicitDefEqProofs only[hj2,hj3,hj4,hj0,h5,hi2,hi0,hgd,zZ,z5,InR,not_true_eq_false,WU,Ent.of0,Ent.of1,Ent.of2,Ent.of3,Ent.of4,V,W3,↓reduceIte,seval,reduceCtorEq];exact⟨by omega,by omega,hu,by omega⟩
           . have hj2:¬ (j:Int) < i:=by omega
             have:i - j=0:=by omega
             rw[this,List.take_zero,List.any_nil]at hu;rw[hu]at hw;simp only[zr,if_false]at hw;delta qH oO oN oA oM oT oR oQ oS oK oF oL oV oI oX oB o2 o5;simp (maxSteps:=9^7) -implicitDefEqProofs only[hj2,InR,WU,Ent.of0,Ent.of1,Ent.of2,Ent.of3,Ent.of4,V,W3,↓reduceIte,seval,reduceCtorEq];exact⟨by omega,h5,hw,by omega⟩
       . have hi2:¬ (i:Int) < (nb.length:Int):=by omega
         rw[zv (by omega),nbE]at hw;rw[hw]at hRe;simp only at hRe;delta c51l3 oO oN oA oM oG oR oS oK oF oL oV oC oW oI oX oH oB oJ o2 o4 o5;simp (maxSteps:=9^7) -implicitDefEqProofs only[my,oa,hi2,WU,Ent.of0,Ent.of1,Ent.of2,Ent.of3,Ent.of4,V,W3,↓reduceIte,seval,reduceCtorEq];rw[hRe,limE,hNc.2.2];by_cases h6:1<=lim/\lim<=100000 <;> simp[h6]
def ent51 : Ent Tryz.prog:=.of1 51 NwS me (fun _=>⟨trivial,trivial,trivial⟩) nB
theorem gO (n:Nw):fy (.agg [C.sl 1 (n.cells.map Dat.cells),.sl 2 (n.nb.map Dat.cells),.s (.int .i64 n.limit)])=some n:=by
 rw[sO,fq,fq];rfl
theorem qz (n:Nw) (h:NwS n):FC Tryz.prog 46 [enc n] [] (enc (eW n).2) []:=by
 have hdn:=gO n;refine dD [] is46 (by simp) trivial trivial trivial trivial (fun cx _ hl _=>dC [ent51] 800 ?_);delta c46 oO oM oV oC oX o5 o7 o8;simp (maxSteps:=9^7) -implicitDefEqProofs only[rv46,ent51,ed,hdn,h,me,Ent.of0,Ent.of1,Ent.of2,Ent.of3,Ent.of4,V,W3,↓reduceIte,seval,reduceCtorEq]
def ent46 : Ent Tryz.prog:=.of1 46 NwS (fun n=>enc (eW n).2) (fun _=>trivial) qz
theorem rU (n:Nw) (h:NwS n):FC Tryz.prog 101 [enc n] [] (enc (eW n).2) []:=by
 have hdn:=gO n;refine dD [] is101 (by simp) trivial trivial trivial trivial (fun cx _ hl _=>dC [ent49] 800 ?_);delta c101 oO oM oV oC oX o5 o7 o8;simp (maxSteps:=9^7) -implicitDefEqProofs only[rv101,ent49,ed,hdn,h,me,Ent.of0,Ent.of1,Ent.of2,Ent.of3,Ent.of4,V,W3,↓reduceIte,seval,reduceCtorEq]
def jq : Ent Tryz.prog:=.of1 101 NwS (fun n=>enc (eW n).2) (fun _=>trivial) rU
def cellR (n:Nw) (c:Int):Int:=if (eW n).2≠0 then (eW n).2 else if isC n c then 0 else 6
theorem tY (n:Nw) (c:Int) (h:NwS n):FC Tryz.prog 40 [enc n,enc c] [] (enc (cellR n c)) []:=by
 have hdn:=gO n;refine dD [] is40 (by simp) trivial trivial trivial trivial (fun cx _ hl _=>dC [ent46,my] 800 ?_);unfold cellR;by_cases h1:(eW n).2=0
 . cases h2:isC n c
   all_goals
    delta c40 oO oN oA oM oS oK oV oC oI oX oB o5 o7;simp (maxSteps:=9^7) -implicitDefEqProofs only[rv40,ent46,my,ed,hdn,h,h1,h2,not_true_eq_false,WU,Ent.of0,Ent.of1,Ent.of2,Ent.of3,Ent.of4,V,W3,↓reduceIte,seval,reduceCtorEq]
    try simp
 . delta c40 oO oN oA oM oS oK oV oC oI oX oB o5 o7;simp (maxSteps:=9^7) -implicitDefEqProofs only[rv40,ent46,my,ed,hdn,h,h1,not_true_eq_false,WU,Ent.of0,Ent.of1,Ent.of2,Ent.of3,Ent.of4,V,W3,↓reduceIte,seval,reduceCtorEq]
   try simp
def ent40 : Ent Tryz.prog:=.of2 40 (fun n _=>NwS n) (fun (n:Nw) (c:Int)=>enc (cellR n c)) (fun _ _=>trivial) (fun n c h=>tY n c h)
def nbr (n:Nw) (a b:Int):Bool:=n.nb.any fun x=>decide (x=⟨min a b,max a b⟩)
def few (n:Nw):Bool:=decide (n.cells.length<=8) && decide (n.nb.length<=20) && n.cells.all fun x=>decide (x.size<=20)
theorem Few_c (n:Nw):FC Tryz.prog 34 [enc n] [] (enc (few n)) []:=by
 refine dD [] is34 (by simp) trivial trivial trivial trivial (fun cx _ hl _=>dC [] 800 ?_);generalize hB:few n=B;by_cases h1:8 < n.cells.length
 . have h1':(8:Int) < n.cells.length:=by omega
   have:B=false:=by rw[<- hB,few];simp;omega
   rw[this];delta c34 oO oN oM oG oS oK oF oL oV oI oX oH oB oE oJ o4 o7 o9;simp (maxSteps:=9^7) -implicitDefEqProofs only[rv34,ed,h1',WU,Ent.of0,Ent.of1,Ent.of2,Ent.of3,Ent.of4,V,W3,↓reduceIte,seval,reduceCtorEq]
 have h1':¬ (8:Int) < n.cells.length:=by omega
 by_cases h2:20 < n.nb.length
 . have h2':(20:Int) < n.nb.length:=by omega
   have:B=false:=by rw[<- hB,few];simp;omega
   rw[this];delta c34 oO oN oM oG oS oK oF oL oV oI oX oH oB oE oJ o4 o7 o9;simp (maxSteps:=9^7) -implicitDefEqProofs only[rv34,ed,h1',h2',WU,Ent.of0,Ent.of1,Ent.of2,Ent.of3,Ent.of4,V,W3,↓reduceIte,seval,reduceCtorEq]
 have h2':¬ (20:Int) < n.nb.length:=by omega
 have hBB:B=n.cells.all fun x=>decide (x.size<=20):=by
  have e1:n.cells.length<=8:=by omega
  have e2:n.nb.length<=20:=by omega
  rw[<- hB,few,decide_eq_true e1,decide_eq_true e2];rfl
 clear hB;delta c34 oO oN oM oG oS oK oF oL oV oI oX oH oB oE oJ o4 o7 o9;simp (maxSteps:=9^7) -implicitDefEqProofs only[rv34,ed,h1',h2',WU,Ent.of0,Ent.of1,Ent.of2,Ent.of3,Ent.of4,V,W3,↓reduceIte,seval,reduceCtorEq];refine eN n.cells.length (fun i=>[(3,.s (.int .i64 (i:Int)))]) (fun _=>[]) (fun i=>B=(n.cells.drop i).all fun x=>decide (x.size<=20)) (by rw[hBB];rfl) ?_ (fun i hi hv=>dC [] 800 ?_)
 . simp (maxSteps:=9^7) -implicitDefEqProofs only[Ent.of0,Ent.of1,Ent.of2,Ent.of3,Ent.of4,V,W3,↓reduceIte,seval,reduceCtorEq]
   all_goals simp
 . by_cases h5:i < n.cells.length
   . have hi2:(i:Int) < (n.cells.length:Int):=by omega
     have hi0:(0:Int)<=i:=by omega
     rw[eg ⟨#[]⟩ h5,List.all_cons]at hv;by_cases hx:20 < (n.cells.getD i ⟨#[]⟩).size
     . have hx2:(20:Int) < ((n.cells.getD i ⟨#[]⟩).size:Int):=by omega
       rw[decide_eq_false (by omega),z7]at hv;delta qF oO oN oA oM oR oS oK oF oL oI oX oB o4 o9;simp (maxSteps:=9^7) -implicitDefEqProofs only[rv34,hi2,hi0,h5,hx2,InR,not_true_eq_false,WU,Ent.of0,Ent.of1,Ent.of2,Ent.of3,Ent.of4,V,W3,↓reduceIte,seval,reduceCtorEq]
       try simp[hv]
     . have hx2:¬ (20:Int) < ((n.cells.getD i ⟨#[]⟩).size:Int):=by omega
       rw[decide_eq_true (by omega),zY]at hv;delta qF oO oN oA oM oR oS oK oF oL oI oX oB o4 o9;simp (maxSteps:=9^7) -implicitDefEqProofs only[rv34,hi2,hi0,h5,hx2,InR,not_true_eq_false,WU,Ent.of0,Ent.of1,Ent.of2,Ent.of3,Ent.of4,V,W3,↓reduceIte,seval,reduceCtorEq];exact⟨by omega,hv,by omega⟩
   . have hi2:¬ (i:Int) < (n.cells.length:Int):=by omega
     rw[zv (by omega)]at hv;delta qF oO oN oA oM oR oS oK oF oL oI oX oB o4 o9;simp (maxSteps:=9^7) -implicitDefEqProofs only[rv34,hi2,WU,Ent.of0,Ent.of1,Ent.of2,Ent.of3,Ent.of4,V,W3,↓reduceIte,seval,reduceCtorEq]
     try simp[hv]
def ent34 : Ent Tryz.prog:=.of1 34 (fun _=>True) (fun n=>enc (few n)) (fun _=>trivial) (fun n _=>Few_c n)
structure T3 where
 x:Int
 y:Int
 z:Int
 deriving DecidableEq
instance : DatL T3 where
 sz:=3
 agg:=true
 cells r:=[.s (.int .i64 r.x),.s (.int .i64 r.y),.s (.int .i64 r.z)]
 dec | [.s (.int .i64 a),.s (.int .i64 b),.s (.int .i64 c)]=>some ⟨a,b,c⟩ | _=>none
 ok:=by intro l a h;split at h <;> cases h;rfl
 data:=fun a=>rfl
 one:=fun h=>by cases h
 dec_cells:=fun a=>rfl
theorem dY (r:T3):enc r=.agg [.s (.int .i64 r.x),.s (.int .i64 r.y),.s (.int .i64 r.z)]:=rfl
theorem fK (r:T3):Dat.cells r=[.s (.int .i64 r.x),.s (.int .i64 r.y),.s (.int .i64 r.z)]:=rfl
theorem mt (a b c:Int):fy (.agg [C.s (.int .i64 a),.s (.int .i64 b),.s (.int .i64 c)])=some (⟨a,b,c⟩:T3):=rfl
theorem hJ : Dat.sz T3=3:=rfl
theorem gW (xs:List T3) (n:Nat):List.getD (xs.map Dat.cells) n [C.s (.int .i64 0),.s (.int .i64 0),.s (.int .i64 0)]=[.s (.int .i64 (xs.getD n ⟨0,0,0⟩).x),.s (.int .i64 (xs.getD n ⟨0,0,0⟩).y),.s (.int .i64 (xs.getD n ⟨0,0,0⟩).z)]:=by
 rw[zb,zb,zh];cases xs[n]? <;> rfl
def mJ (n:Nw) (i:Nat) (p s:T3):Int:=
 if isC n s.x=false then 6 else if (eM s.y && eM s.z)=false then 2 else if ¬ (s.y<=s.z/\(i=0\/s.y=p.z))then 9 else if i=0\/s.x≠p.x then 0 else 26
def stE (n:Nw) (all:List T3):Nat->List T3->Int
 |_,[]=>0
 | i,s :: l=>if mJ n i (all.getD (i - 1) ⟨0,0,0⟩) s≠0 then mJ n i (all.getD (i - 1) ⟨0,0,0⟩) s else stE n all (i+1) l
def jx (n:Nw) (l:List T3):Int:=if (eW n).2≠0 then (eW n).2 else if l.length > 200 then 8 else stE n l 0 l
def pp (l:List T3) (w:Int) (i:Nat):Bool:=decide ((l.getD i ⟨0,0,0⟩).z - (l.getD i ⟨0,0,0⟩).y<=w) && decide ((l.getD (i - 1) ⟨0,0,0⟩).x=(l.getD (i+1) ⟨0,0,0⟩).x)
def ppN (l:List T3) (w:Int):Nat->Nat->Int
 | 0,_=>0
 | k+1,i=>(if pp l w i then 1 else 0)+ppN l w k (i+1)
def ppE (n:Nw) (l:List T3) (w:Int):Int:=if jx n l≠0 then jx n l else if eM w then 0 else 2
def ppR (n:Nw) (l:List T3) (w:Int):Int:=if ppE n l w=0 then ppN l w (l.length - 2) 1 else 0
theorem rY (l:List T3) (w:Int):∀ k i,0<=ppN l w k i/\ppN l w k i<=k
 | 0,i=>by simp[ppN]
 | k+1,i=>by
  have:=rY l w k (i+1);rw[ppN];push_cast;split <;> omega
theorem qp (n:Nw) (all:List T3):∀ (l:List T3) (i:Nat),stE n all i l=0->∀ s∈l,eM s.y=true/\eM s.z=true
 |[],i,_,s,hs=>by cases hs
 | a :: l,i,h,s,hs=>by
  rw[stE]at h;have h1:mJ n i (all.getD (i - 1) ⟨0,0,0⟩) a=0:=by
   rcases Classical.em (mJ n i (all.getD (i - 1) ⟨0,0,0⟩) a=0)with g | g
   . exact g
   . rw[if_pos g]at h;exact absurd h g
  rw[if_neg (fun g=>g h1)]at h;rcases zl.1 hs with rfl | hs
  . unfold mJ at h1;cases g1:isC n s.x <;> cases g2:(eM s.y && eM s.z) <;> simp[g1,g2]at h1;simpa using g2
  . exact qp n all l (i+1) h s hs
theorem so (n:Nw) (l:List T3) (w:Int) (h:NwS n):FC Tryz.prog 44 [enc n,enc l,enc w] [] (.tup [enc (ppR n l w),enc (ppE n l w)]) []:=by
 have hbc:=h.c;have hdn:=gO n;generalize hE:ppE n l w=e;generalize hR:ppR n l w=r;refine dD [] is44 (by simp) trivial trivial trivial trivial (fun cx _ hl _=>dC [jq,dT,dS] 800 ?_);by_cases h0:(eW n).2=0
 rotate_left
 . have hs:jx n l=(eW n).2:=by rw[jx,if_pos h0]
   have he:e=(eW n).2:=by rw[<- hE,ppE,hs,if_pos h0]
   have hr:r=0:=by rw[<- hR,ppR,hE,he,if_neg h0]
   delta c44 oO oN oA oM oS oK oV oC oI oX oB o1 o4 o5 o7;simp (maxSteps:=9^7) -implicitDefEqProofs only[rv44,hJ,gW,fK,jq,dT,dS,dM,ed,hdn,h,h0,he,hr,not_true_eq_false,WU,Ent.of0,Ent.of1,Ent.of2,Ent.of3,Ent.of4,V,W3,↓reduceIte,seval,reduceCtorEq]
 by_cases h1:l.length<=200
 rotate_left
 . have h1':¬ (l.length:Int)<=200:=by omega
   have hs:jx n l=8:=by rw[jx,if_neg (by simp[h0]),if_pos (by omega)]
   have he:e=8:=by rw[<- hE,ppE,hs];rfl
   have hr:r=0:=by rw[<- hR,ppR,hE,he];rfl
   delta c44 oO oN oA oM oS oK oV oC oI oX oB o1 o4 o5 o7;simp (maxSteps:=9^7) -implicitDefEqProofs only[rv44,hJ,gW,fK,jq,dT,dS,dM,ed,hdn,h,h0,h1',he,hr,not_true_eq_false,WU,Ent.of0,Ent.of1,Ent.of2,Ent.of3,Ent.of4,V,W3,↓reduceIte,seval,reduceCtorEq]
 have h1':(l.length:Int)<=200:=by omega
 have hs:jx n l=stE n l 0 l:=by rw[jx,if_neg (by simp[h0]),if_neg (by omega)]
 have hbad:∀ v,v≠0->stE n l 0 l=v->e=v/\r=0:=fun v hv0 hv=>by
  have he:e=v:=by rw[<- hE,ppE,hs,hv,if_pos hv0]
  exact⟨he,by rw[<- hR,ppR,hE,he,if_neg hv0]⟩
 delta c44 oO oN oA oM oS oK oV oC oI oX oB o1 o4 o5 o7;simp (maxSteps:=9^7) -implicitDefEqProofs only[rv44,hJ,gW,fK,jq,dT,dS,dM,ed,hdn,h,h0,h1',not_true_eq_false,WU,Ent.of0,Ent.of1,Ent.of2,Ent.of3,Ent.of4,V,W3,↓reduceIte,seval,reduceCtorEq];refine eN l.length (fun i=>[(28,.s (.int .i64 (i:Int)))]) (fun _=>[]) (fun i=>stE n l 0 l=stE n l i (l.drop i)) rfl ?_ (fun i hi hv=>dC [eZ,dT,dS,iQ] 900 ?_)
 . simp (maxSteps:=9^7) -implicitDefEqProofs only[Ent.of0,Ent.of1,Ent.of2,Ent.of3,Ent.of4,V,W3,↓reduceIte,seval,reduceCtorEq]
   all_goals simp
 . by_cases h4:i < l.length
   . have hi2:(i:Int) < (l.length:Int):=by omega
     have hi0:(0:Int)<=i:=by omega
     have hmx:(if (i:Int) - 1 > 0 then (i:Int) - 1 else 0)=((i - 1:Nat):Int):=by omega
     have hm0:(0:Int)<=((i - 1:Nat):Int):=by omega
     have hm1:((i - 1:Nat):Int) < (l.length:Int):=by omega
     have hm2:i - 1 < l.length:=by omega
     rw[eg ⟨0,0,0⟩ h4,stE]at hv;delta qG oO oN oA oM oT oG oR oQ oS oK oF oL oV oC oW oI oX oP oB oD oE oJ o1 o3 o4 o5;simp (maxSteps:=9^7) -implicitDefEqProofs only[eZ,dT,dS,iQ,hJ,gW,fK,dM,hi2,hi0,h4,hmx,hm0,hm1,hm2,z5,InR,not_true_eq_false,WU,Ent.of0,Ent.of1,Ent.of2,Ent.of3,Ent.of4,V,W3,↓reduceIte,seval,reduceCtorEq];refine⟨by omega,by omega,?_⟩;generalize l.getD i ⟨0,0,0⟩=s at hv ⊢;generalize l.getD (i - 1) ⟨0,0,0⟩=p at hv ⊢;have hisC:isC n s.x=decide (0<=s.x/\s.x<=(n.cells.length:Int) - 1):=rfl;unfold mJ at hv;rw[hisC]at hv;have hok:(-9223372036854775808<=(i:Int)+1/\(i:Int)+1<=9223372036854775807):=by omega
     have hok2:(i:Int)+1=((i+1:Nat):Int):=by omega
     generalize eM s.y=ty at hv ⊢;generalize eM s.z=tz at hv ⊢;generalize hXE:stE n l (i+1) (List.drop (i+1) l)=X at *;rcases Classical.propComplete (0<=s.x/\s.x<=(n.cells.length:Int) - 1)with hA | hA <;> cases ty <;> cases tz <;> rcases Classical.propComplete (s.y<=s.z)with hY | hY <;> rcases Classical.propComplete ((i:Int)=0)with hz | hz <;> rcases Classical.propComplete (s.y=p.z)with hP | hP <;> rcases Classical.propComplete (s.x=p.x)with hQ | hQ
     all_goals
      have hzn:(i=0)=((i:Int)=0):=by rw[Int.natCast_eq_zero]
      simp only[hA,hY,hz,hP,hQ,hzn,decide_true,decide_false,zZ,yd,zY,z7,if_true,if_false,not_true_eq_false,not_false_eq_true,zr,ym,ne_eq,true_or,or_true,false_or,or_false,true_and,and_true,false_and,and_false,Int.reduceEq,reduceCtorEq]at hv ⊢
      first | (obtain⟨q1,q2⟩:=hbad _ (by decide) hv;exact⟨q2.symm,q1.symm⟩) | exact⟨hok,hv,hok2⟩
   . have hi2:¬ (i:Int) < (l.length:Int):=by omega
     rw[zv (by omega),stE]at hv;have htk:=qp n l l 0 hv;rw[hv]at hs;cases hw:eM w
     . have he:e=2:=by rw[<- hE,ppE,hs,hw];rfl
       have hr:r=0:=by rw[<- hR,ppR,hE,he];rfl
       delta qG oO oN oA oM oT oG oR oQ oS oK oF oL oV oC oW oI oX oP oB oD oE oJ o1 o3 o4 o5;simp (maxSteps:=9^7) -implicitDefEqProofs only[eZ,dT,dS,iQ,hJ,gW,fK,hi2,hw,not_true_eq_false,WU,Ent.of0,Ent.of1,Ent.of2,Ent.of3,Ent.of4,V,W3,↓reduceIte,seval,reduceCtorEq]
       try simp[he,hr]
     have he:e=0:=by rw[<- hE,ppE,hs,hw];rfl
     have hr:r=ppN l w (l.length - 2) 1:=by rw[<- hR,ppR,hE,if_pos he]
     have htb:∀ j,j < l.length->0<=(l.getD j ⟨0,0,0⟩).y/\(l.getD j ⟨0,0,0⟩).y<=1000000000/\0<=(l.getD j ⟨0,0,0⟩).z/\(l.getD j ⟨0,0,0⟩).z<=1000000000:=fun j hj=>by
      rw[zb,ze hj];have:=htk _ (yy hj);simp only[eM,decide_eq_true_eq]at this;simp only[zN];omega
     delta qG oO oN oA oM oT oG oR oQ oS oK oF oL oV oC oW oI oX oP oB oD oE oJ o1 o3 o4 o5;simp (maxSteps:=9^7) -implicitDefEqProofs only[eZ,dT,dS,iQ,hJ,gW,fK,hi2,hw,not_true_eq_false,WU,Ent.of0,Ent.of1,Ent.of2,Ent.of3,Ent.of4,V,W3,↓reduceIte,seval,reduceCtorEq];refine eN (l.length - 2) (fun i=>[(13,.s (.int .i64 (r - ppN l w (l.length - 2 - i) (1+i)))),(14,.s (.int .i64 ((1+i:Nat):Int)))]) (fun _=>[]) (fun _=>True) trivial ?_ (fun i hi _=>dC [] 900 ?_)
     . simp (maxSteps:=9^7) -implicitDefEqProofs only[Ent.of0,Ent.of1,Ent.of2,Ent.of3,Ent.of4,V,W3,↓reduceIte,seval,reduceCtorEq]
       all_goals simp[hr]
     . have hpl:=rY l w (l.length - 2 - i) (1+i);have hrl:=rY l w (l.length - 2) 1;rw[<- hr]at hrl;by_cases h5:i < l.length - 2
       . obtain⟨k,hk⟩:∃ k,l.length - 2 - i=k+1:=⟨l.length - 2 - i - 1,by omega⟩;have hk1:l.length - 2 - (i+1)=k:=by omega
         have hk2:1+(i+1)=1+i+1:=by omega
         rw[hk,ppN]at hpl;have b1:=htb (1+i) (by omega);have f0:(0:Int)<=((1+i:Nat):Int):=by omega
         have c1':((1+i:Nat):Int) < (l.length:Int):=by omega
         have c2':((1+i:Nat):Int)+1 < (l.length:Int):=by omega
         have c3':((1+i:Nat):Int)+1=((1+i+1:Nat):Int):=by omega
         have c4':((1+i:Nat):Int) - 1=((i:Nat):Int):=by omega
         have c5':((1+i+1:Nat):Int) < (l.length:Int):=by omega
         have c6':(0:Int)<=((1+i+1:Nat):Int):=by omega
         have c7':(i:Int) < (l.length:Int):=by omega
         have c8':(0:Int)<=(i:Int):=by omega
         have d1:i < l.length:=by omega
         have d2:1+i < l.length:=by omega
         have d3:1+i+1 < l.length:=by omega
         have hpp:pp l w (1+i)=(decide ((l.getD (1+i) ⟨0,0,0⟩).z - (l.getD (1+i) ⟨0,0,0⟩).y<=w) && decide ((l.getD i ⟨0,0,0⟩).x=(l.getD (1+i+1) ⟨0,0,0⟩).x)):=by
          rw[pp,show 1+i - 1=i by omega]
         delta c44l2 oO oN oA oM oT oG oR oQ oS oK oF oL oI oX oB oD oE oJ o3 o4;simp (maxSteps:=9^7) -implicitDefEqProofs only[hJ,gW,fK,c3',c4',c5',c6',c7',c8',f0,c1',c2',d1,d2,d3,hk,hk1,hk2,ppN,z5,InR,not_true_eq_false,WU,Ent.of0,Ent.of1,Ent.of2,Ent.of3,Ent.of4,V,W3,↓reduceIte,seval,reduceCtorEq];rcases Classical.propComplete ((l.getD (1+i) ⟨0,0,0⟩).z - (l.getD (1+i) ⟨0,0,0⟩).y<=w)with g1 | g1 <;> rcases Classical.propComplete ((l.getD i ⟨0,0,0⟩).x=(l.getD (1+i+1) ⟨0,0,0⟩).x)with g2 | g2
         all_goals
          simp only[g1,g2,decide_true,decide_false,zZ,yd,zY,z7]at hpp;simp only[g1,g2,hpp,if_true,if_false,zr,reduceCtorEq]at hpl ⊢;omega
       . have c2':¬ ((1+i:Nat):Int)+1 < (l.length:Int):=by omega
         have hk:l.length - 2 - i=0:=by omega
         delta c44l2 oO oN oA oM oT oG oR oQ oS oK oF oL oI oX oB oD oE oJ o3 o4;simp (maxSteps:=9^7) -implicitDefEqProofs only[c2',hk,ppN,InR,WU,Ent.of0,Ent.of1,Ent.of2,Ent.of3,Ent.of4,V,W3,↓reduceIte,seval,reduceCtorEq];exact⟨by omega,by omega,he.symm⟩
structure PpOk (n:Nw) (l:List T3):Prop where
 e:stE n l 0 l=0
 len:l.length<=200
def cnA (S:Nat->Bool) (j:Nat) (c:C):C:=if S j=true then c else .any
def cnT (cs:List (List C)) (nb:List (List C)) (lim:Int) (S:Nat->Bool):ASt:=
 ⟨[(3,cnA S 0 (.ptr 1 0)),(4,cnA S 1 (.sl 1 cs)),(5,cnA S 2 (.sl 1 cs)),(6,if S 6=true then .any else cnA S 3 (.own 6)),(7,cnA S 4 (.ptr 1 1)),(8,cnA S 5 (.sl 2 nb)),(9,cnA S 6 (.sl 2 nb)),(10,cnA S 7 (.ptr 1 2)),(11,cnA S 8 (.s (.int .i64 lim))),(12,cnA S 9 (.agg [.sl 1 cs,.sl 2 nb,.s (.int .i64 lim)])),(1,.ptr 1 0),(2,.ptr 2 0)],
  (if S 3=true/\S 6=false then [(6,.row 2 40 [])]else [])++[(2,.box (if S 10=true then [.sl 1 cs,.sl 2 nb,.s (.int .i64 lim)]else [.s (.slice none 0 0),.s (.slice none 0 0),.s (.int .i64 0)])),(1,.box [.sl 1 cs,.sl 2 nb,.s (.int .i64 lim)])]⟩
theorem eY (cs nb:List (List C)) (lim:Int) (S:Nat->Bool):(cnT cs nb lim S).t=[(3,cnA S 0 (.ptr 1 0)),(4,cnA S 1 (.sl 1 cs)),(5,cnA S 2 (.sl 1 cs)),(6,if S 6=true then .any else cnA S 3 (.own 6)),(7,cnA S 4 (.ptr 1 1)),(8,cnA S 5 (.sl 2 nb)),(9,cnA S 6 (.sl 2 nb)),(10,cnA S 7 (.ptr 1 2)),(11,cnA S 8 (.s (.int .i64 lim))),(12,cnA S 9 (.agg [.sl 1 cs,.sl 2 nb,.s (.int .i64 lim)])),(1,.ptr 1 0),(2,.ptr 2 0)]:=rfl
theorem jT (cs nb:List (List C)) (lim:Int) (S:Nat->Bool):lk (cnT cs nb lim S).ch 1=some (.box [.sl 1 cs,.sl 2 nb,.s (.int .i64 lim)]):=by
 simp only[cnT];split <;> simp[lk]
theorem tb {m:List (Nat×Sb)} {p:Prop} [Decidable p] {a b:C}:ah m (if p then a else b)=if p then ah m a else ah m b:=by split <;> rfl
theorem mn (cs nb:List (List C)) (lim:Int) (S:Nat->Bool):((cnT cs nb lim S).ch.map (·.1)).Nodup:=by
 simp only[cnT];split <;> simp
theorem kb {P:Program} [Glob P] {cx:Cx} {cs nb:List (List C)} {lim:Int} {S:Nat->Bool} {j d:Nat} {v:C} {p:Prop} (hch:(cnT cs nb lim (fun i=>i == j || S i)).ch=(cnT cs nb lim S).ch)
 (ht:∀ x,gt (cnT cs nb lim (fun i=>i == j || S i)).t x=.any\/(if d=x then v else gt (cnT cs nb lim S).t x)=gt (cnT cs nb lim (fun i=>i == j || S i)).t x) :
 dX P cx (aw (some d) ⟨p,v,(cnT cs nb lim S).ch,[]⟩ (cnT cs nb lim S)) (cnT cs nb lim (fun i=>i == j || S i)):=.of_le ⟨fun x=>by
  show _\/gt (aU (some d) [] v (cnT cs nb lim S).t) x=_
  rw[fF,eG];have:=ht x;by_cases hx:d=x
  . subst hx;simpa using this
  . have hx2:¬ (some d=some x):=fun e=>hx (Option.some.inj e)
    rw[if_neg hx]at this;simpa[hx]using this,mn _ _ _ _,fun p hp=>by
  rw[hch]at hp
  exact eU (mn _ _ _ _) hp⟩
def cnRb : List Nat:=[1,2,6,9,10,102,106,109,110,206,209,210,306,309,310,405,406,409,410,506,509,510,609,610,708,709,710,809,810,910]
theorem qx (n:Nw) (h:NwS n):FC Tryz.prog 37 [enc n] [] (enc n) []:=by
 have hbc:=h.c;have hbb:=h.b;refine dD [] D2.is37 (by simp) trivial trivial trivial trivial (fun cx _ hl _=>dC [ent98] 800 ?_);delta D2.c37 oO oA oT oS oK oF oL oC oX o2 o7;simp (maxSteps:=9^7) -implicitDefEqProofs only[D2.rv37,ed,hbc,WU,Ent.of0,Ent.of1,Ent.of2,Ent.of3,Ent.of4,V,W3,↓reduceIte,seval,reduceCtorEq];refine m8 (T:=cnT (n.cells.map Dat.cells) (n.nb.map Dat.cells) n.limit) ⟨fun x=>?_,mn _ _ _ _,?_⟩ (fun S j ao hj hSj hp hs=>?_) (fun S hS=>dC [] 800 ?_)
 . simp only[cnT,cnA,eI,zr,if_false]
   repeat' split
   all_goals first | exact .inl rfl | exact .inr rfl
 . simp[cnT,lk]
 . have hp':∀ c∈cnRb,c % 100=j->S (c / 100)=true:=hp;have hs':∀ c∈cnRb,S (c % 100)=true->S (c / 100)=true:=hs;clear hp hs;rcases j with _|_|_|_|_|_|_|_|_|_|_|j <;> simp only[zD,yp,Nat.reduceAdd,List.getElem?_nil,reduceCtorEq,zn,zz]at hj
   all_goals
    subst hj;simp[cnRb]at hp'
    try simp only[zz,Nat.reduceAdd]at hSj ⊢
   . refine⟨⟨_,.ptr 1 0,_,[]⟩,.yes _ rfl (.f (by simp only[ai,aq,eY,eI,cnA,hp',jT,if_true,Nat.reduceEqDiff,if_false] <;> rfl) (by simp)),kb (by simp[cnT]) (fun x=>?_)⟩
     . rw[eY,eY];simp only[eI,cnA];by_cases hx:3=x
       . subst hx;simp[au]
       . simp[hx]
   . refine⟨⟨_,.sl 1 (n.cells.map Dat.cells),_,[]⟩,.yes _ rfl (.f (by simp only[ai,aq,eY,eI,cnA,hp',jT,if_true,Nat.reduceEqDiff,if_false] <;> rfl) (by simp)),kb (by simp[cnT]) (fun x=>?_)⟩
     . rw[eY,eY];simp only[eI,cnA];by_cases hx:4=x
       . subst hx;simp[au]
       . simp[hx]
   . refine⟨⟨True,.sl 1 (n.cells.map Dat.cells),_,[]⟩,.yes _ rfl (ju (L:=[ent98]) (ef:=⟨True,.sl 1 (n.cells.map Dat.cells),(cnT (n.cells.map Dat.cells) (n.nb.map Dat.cells) n.limit S).ch,[]⟩) ?_ trivial),kb (by simp[cnT]) (fun x=>?_)⟩
     . simp (maxSteps:=9^7) -implicitDefEqProofs only[ent98,eY,eI,cnA,hp',hbc,aF,Ent.of0,Ent.of1,Ent.of2,Ent.of3,Ent.of4,V,W3,↓reduceIte,seval,reduceCtorEq]
     . rw[eY,eY];simp only[eI,cnA];by_cases hx:5=x
       . subst hx;simp[au]
       . simp[hx]
   . have hS6:S 6=false:=by
      cases hc:S 6
      . rfl
      . have:=hs' 306 (by simp[cnRb]) hc;rw[hSj]at this;exact this.symm ▸ rfl
     refine⟨⟨_,.own 6,(6,.row 2 40 []) :: ae [(6,.c .any)] (af (cnT (n.cells.map Dat.cells) (n.nb.map Dat.cells) n.limit S).ch 6),[(6,.c .any)]⟩,.yes _ rfl (.f (by simp only[ai,aq,zN,List.isEmpty_nil,if_true] <;> rfl) (by simp[Value.oneCell'])),.of_le ⟨fun x=>?_,mn _ _ _ _,?_⟩⟩
     . simp only[aw,fF,eY,eI,cnA,hSj,hS6];by_cases hx:6=x
       . subst hx;simp
       . right;simp[hx,tb,ah,ah.subCs,List.lookup,gt,lk]
     . simp[cnT,hSj,hS6,aw];cases hs10:S 10 <;> simp[af,ae,lk,ah]
   . refine⟨⟨_,.ptr 1 1,_,[]⟩,.yes _ rfl (.f (by simp only[ai,aq,eY,eI,cnA,hp',jT,if_true,Nat.reduceEqDiff,if_false] <;> rfl) (by simp)),kb (by simp[cnT]) (fun x=>?_)⟩
     . rw[eY,eY];simp only[eI,cnA];by_cases hx:7=x
       . subst hx;simp[au]
       . simp[hx]
   . refine⟨⟨_,.sl 2 (n.nb.map Dat.cells),_,[]⟩,.yes _ rfl (.f (by simp only[ai,aq,eY,eI,cnA,hp',jT,if_true,Nat.reduceEqDiff,if_false] <;> rfl) (by simp)),kb (by simp[cnT]) (fun x=>?_)⟩
     . rw[eY,eY];simp only[eI,cnA];by_cases hx:8=x
       . subst hx;simp[au]
       . simp[hx]
   . obtain⟨k0,k1,k2,k3,k4,k5⟩:=hp';have hlk6:lk (cnT (n.cells.map Dat.cells) (n.nb.map Dat.cells) n.limit S).ch 6=some (.row 2 40 []):=by simp[cnT,k3,hSj,lk]
     have ho:∃ p,ai (aq Tryz.prog (cnT (n.cells.map Dat.cells) (n.nb.map Dat.cells) n.limit S).t) (cnT (n.cells.map Dat.cells) (n.nb.map Dat.cells) n.limit S).ch 9 (.app 45 40 2 16 [.int .i64 0,.int .i64 0] (.tmp 6) (.tmp 8))=some ⟨p,.own 6,am (ae [(6,.c .any)] (cnT (n.cells.map Dat.cells) (n.nb.map Dat.cells) n.limit S).ch) 6 (.row 2 40 ([]++n.nb.map Dat.cells)),[(6,.c .any)]⟩/\p:=by
      refine⟨(([]:List (List C)).length+(n.nb.map Dat.cells).length)*16<=140737488355328/\([]:List (List C)).length+(n.nb.map Dat.cells).length<=9223372036854775807,?_,?_⟩
      . simp[ai,aq,eY,eI,cnA,k3,k5,hSj,hlk6,aV,cO]
      . simp only[yh,zy];omega
     obtain⟨p,ho,hpp⟩:=ho;refine⟨_,.yes _ rfl (.f ho hpp),.fzle [6] ⟨fun x=>?_,mn _ _ _ _,?_⟩⟩
     . have hfz:bf (am (ae [(6,.c .any)] (cnT (n.cells.map Dat.cells) (n.nb.map Dat.cells) n.limit S).ch) 6 (.row 2 40 ([]++n.nb.map Dat.cells))) [6]=[(6,.c (.sl 2 (n.nb.map Dat.cells)))]:=by
        simp[bf,cnT,k3,hSj,ae,am,lk,bz]
       simp only[cg,aw,hfz,iz,fF,eY,eI,cnA,hSj,k3];by_cases hx:9=x
       . subst hx;simp[ah,List.lookup]
       . by_cases hx6:6=x
         . subst hx6;simp
         . right;simp[hx,hx6,tb,ah,ah.subCs,List.lookup,gt,lk]
     . have hfz:bf (am (ae [(6,.c .any)] (cnT (n.cells.map Dat.cells) (n.nb.map Dat.cells) n.limit S).ch) 6 (.row 2 40 ([]++n.nb.map Dat.cells))) [6]=[(6,.c (.sl 2 (n.nb.map Dat.cells)))]:=by
        simp[bf,cnT,k3,hSj,ae,am,lk,bz]
       simp only[cg,aw,hfz];simp[cnT,k3,hSj];cases hs10:S 10 <;> simp[ae,am,lk,ah,aC,af]
   . refine⟨⟨_,.ptr 1 2,_,[]⟩,.yes _ rfl (.f (by simp only[ai,aq,eY,eI,cnA,hp',jT,if_true,Nat.reduceEqDiff,if_false] <;> rfl) (by simp)),kb (by simp[cnT]) (fun x=>?_)⟩
     . rw[eY,eY];simp only[eI,cnA];by_cases hx:10=x
       . subst hx;simp[au]
       . simp[hx]
   . refine⟨⟨_,.s (.int .i64 n.limit),_,[]⟩,.yes _ rfl (.f (by simp only[ai,aq,eY,eI,cnA,hp',jT,if_true,Nat.reduceEqDiff,if_false] <;> rfl) (by simp)),kb (by simp[cnT]) (fun x=>?_)⟩
     . rw[eY,eY];simp only[eI,cnA];by_cases hx:11=x
       . subst hx;simp[au]
       . simp[hx]
   . refine⟨⟨_,.agg [.sl 1 (n.cells.map Dat.cells),.sl 2 (n.nb.map Dat.cells),.s (.int .i64 n.limit)],_,[]⟩,.yes _ rfl (.f (by simp only[ai,aq,eY,eI,cnA,hp',jT,if_true,Nat.reduceEqDiff,if_false] <;> rfl) (by simp[Value.oneCell'])),kb (by simp[cnT]) (fun x=>?_)⟩
     . rw[eY,eY];simp only[eI,cnA];by_cases hx:12=x
       . subst hx;simp[au]
       . simp[hx]
   . obtain⟨k0,k1,k2,k3,k4,k5,k6,k7,k8,k9⟩:=hp';have hlk2:lk (cnT (n.cells.map Dat.cells) (n.nb.map Dat.cells) n.limit S).ch 2=some (.box [.s (.slice none 0 0),.s (.slice none 0 0),.s (.int .i64 0)]):=by simp[cnT,k3,k6,hSj,lk]
     have ho:∃ p,ai (aq Tryz.prog (cnT (n.cells.map Dat.cells) (n.nb.map Dat.cells) n.limit S).t) (cnT (n.cells.map Dat.cells) (n.nb.map Dat.cells) n.limit S).ch 0 (.store false 3 (.tmp 2) (.tmp 12))=some ⟨p,.s undef,am (cnT (n.cells.map Dat.cells) (n.nb.map Dat.cells) n.limit S).ch 2 (.box [.sl 1 (n.cells.map Dat.cells),.sl 2 (n.nb.map Dat.cells),.s (.int .i64 n.limit)]),[]⟩/\p:=by
      refine⟨_,by simp only[ai,aq,eY,eI,cnA,k9,hSj,hlk2,if_true,Nat.reduceEqDiff,if_false] <;> rfl,?_⟩;simp[aj,aR,aE,Value.oneCell']
     obtain⟨p,ho,hpp⟩:=ho;refine⟨_,.yes _ rfl (.f ho hpp),.of_le ⟨fun x=>?_,mn _ _ _ _,?_⟩⟩
     . simp only[aw,eY,aU];right;rw[iz,eG];simp[cnA]
     . simp[cnT,k3,k6,hSj,aw,am,lk]
 . simp (maxSteps:=9^7) -implicitDefEqProofs only[cnT,cnA,hS,WU,Ent.of0,Ent.of1,Ent.of2,Ent.of3,Ent.of4,V,W3,↓reduceIte,seval,reduceCtorEq]
def ent37 : Ent Tryz.prog:=.of1 37 NwS (fun n=>enc n) (fun n=>by simp[ed,dF,dF.keysIns]) qx
def Awake : Prop:=FC Tryz.prog 21 [] [] (enc true) []
def ent21 (h:Awake):Ent Tryz.prog:=.of0 21 (enc true) trivial h
theorem few_nws {n:Nw} (h:few n=true):NwS n:=by
 simp only[few,zm,decide_eq_true_eq,zx]at h;exact⟨by omega,by omega,fun x hx=>by have:=h.2 x hx;omega⟩
def kR : C:=.agg [.s (.int .i64 30),.s (.int .i64 10),.s (.int .i64 2)]
theorem Rule_c : FC Tryz.prog 88 [] [] kR []:=by
 refine eh is88 (by simp) (fun cx hl=>dC [] 800 ?_);delta c88 oN oA oW oX o3;simp (maxSteps:=9^7) -implicitDefEqProofs only[rv88,kR,Ent.of0,Ent.of1,Ent.of2,Ent.of3,Ent.of4,V,W3,↓reduceIte,seval,reduceCtorEq]
def ent88 : Ent Tryz.prog:=.of0 88 kR (by simp[kR,dF,dF.keysIns]) Rule_c
def fb : Nw:=⟨[⟨#[97]⟩,⟨#[98]⟩,⟨#[99]⟩],[⟨0,1⟩,⟨1,2⟩],100⟩
theorem Net_c : FC Tryz.prog 89 [] [] (enc fb) []:=by
 refine eh is89 (by simp) (fun cx hl=>dC [] 800 ?_);delta c89 oO oN oA oW oX o2;simp (maxSteps:=9^7) -implicitDefEqProofs only[rv89,ed,fb,zt,zR,nc,Ent.of0,Ent.of1,Ent.of2,Ent.of3,Ent.of4,V,W3,↓reduceIte,seval,reduceCtorEq]
def ent89 : Ent Tryz.prog:=.of0 89 (enc fb) (by simp[ed,dF,dF.keysIns]) Net_c
def gC : List T3:=[⟨0,1,0⟩,⟨0,2,0⟩,⟨1,3,0⟩,⟨3,4,1⟩,⟨5,5,0⟩,⟨7,6,0⟩,⟨7,7,0⟩,⟨6,8,0⟩,⟨1,9,0⟩,⟨2,10,0⟩,⟨1,11,0⟩,⟨2,12,0⟩]
theorem Log_c : FC Tryz.prog 90 [] [] (enc gC) []:=by
 refine eh is90 (by simp) (fun cx hl=>dC [] 1200 ?_);delta c90 oO oN oA oM oX o3;simp (maxSteps:=9^7) -implicitDefEqProofs only[rv90,hJ,gC,zt,zR,fK,Ent.of0,Ent.of1,Ent.of2,Ent.of3,Ent.of4,V,W3,↓reduceIte,seval,reduceCtorEq]
def ent90 : Ent Tryz.prog:=.of0 90 (enc gC) trivial Log_c
theorem Lists_c (x y:List (List Int)):FC Tryz.prog 100 [enc x,enc y] [] (enc (decide (x=y))) []:=by
 refine dD [] is100 (by simp) trivial trivial trivial trivial (fun cx _ hl _=>dC [mw] 800 ?_);simp only[V,W3,↓reduceIte,seval,reduceCtorEq]at hl;have hlx:=hl.1.list;generalize hB:decide (x=y)=B;by_cases h1:x.length=y.length
 rotate_left
 . have h1':¬ (x.length:Int)=y.length:=by omega
   have hb:B=false:=by rw[<- hB];exact decide_eq_false fun e=>h1 (by rw[e])
   delta c100 oO oM oS oK oV oI oX oB o4 o9;simp (maxSteps:=9^7) -implicitDefEqProofs only[rv100,h1',hb,WU,Ent.of0,Ent.of1,Ent.of2,Ent.of3,Ent.of4,V,W3,↓reduceIte,seval,reduceCtorEq]
 have h1':(x.length:Int)=y.length:=by omega
 delta c100 oO oM oS oK oV oI oX oB o4 o9;simp (maxSteps:=9^7) -implicitDefEqProofs only[rv100,h1',not_true_eq_false,WU,Ent.of0,Ent.of1,Ent.of2,Ent.of3,Ent.of4,V,W3,↓reduceIte,seval,reduceCtorEq];refine eN x.length (fun i=>[(5,.s (.int .i64 (i:Int)))]) (fun _=>[]) (fun i=>B=decide (x.drop i=y.drop i)) (by rw[<- hB];rfl) ?_ (fun i hi hv=>dC [mw] 800 ?_)
 . simp (maxSteps:=9^7) -implicitDefEqProofs only[Ent.of0,Ent.of1,Ent.of2,Ent.of3,Ent.of4,V,W3,↓reduceIte,seval,reduceCtorEq]
   all_goals simp
 . by_cases h:i < x.length
   . have hi2:(i:Int) < (x.length:Int):=by omega
     have hi3:(i:Int) < (y.length:Int):=by omega
     have h':i < y.length:=by omega
     have hi0:(0:Int)<=i:=by omega
     rw[eg [] h,eg [] h']at hv;have hgx:List.getD (x.map Dat.cells) i [C.sl 0 []]=[C.sl 1 ((x.getD i []).map Dat.cells)]:=by
      rw[zb,zb,zh,ze h];rfl
     have hgy:List.getD (y.map Dat.cells) i [C.sl 0 []]=[C.sl 1 ((y.getD i []).map Dat.cells)]:=by
      rw[zb,zb,zh,ze h'];rfl
     have hxl:i < x.length:=h;have hok:(-9223372036854775808<=(i:Int)+1/\(i:Int)+1<=9223372036854775807):=by omega
     generalize x.getD i []=p at *;generalize y.getD i []=q at *;cases hx:decide (p=q)
     all_goals
      delta rj oO oN oA oM oT oR oQ oS oK oL oI oX oB o0 o4 o9;simp (maxSteps:=9^7) -implicitDefEqProofs only[mw,hi0,hi2,hi3,h,h',hgx,hgy,hx,InR,WU,Ent.of0,Ent.of1,Ent.of2,Ent.of3,Ent.of4,V,W3,↓reduceIte,seval,reduceCtorEq];have hx2:=hx;simp only[decide_eq_true_eq,decide_eq_false_iff_not]at hx2
      first
       | exact⟨hok,by rw[hv,hx2];simp,by omega⟩
       | (rw[hv];exact (decide_eq_false (fun e=>hx2 (List.cons.inj e).1)).symm)
   . have hi2:¬ (i:Int) < (x.length:Int):=by omega
     rw[zv (by omega),zv (by omega)]at hv;delta rj oO oN oA oM oT oR oQ oS oK oL oI oX oB o0 o4 o9;simp (maxSteps:=9^7) -implicitDefEqProofs only[mw,hi2,WU,Ent.of0,Ent.of1,Ent.of2,Ent.of3,Ent.of4,V,W3,↓reduceIte,seval,reduceCtorEq]
     try simp[hv]
def ux : Ent Tryz.prog:=.of2 100 (fun _ _=>True) (fun x y:List (List Int)=>enc (decide (x=y))) (fun _ _=>trivial) (fun x y _=>Lists_c x y)
structure Ms where
 at_:Int
 phase:Int
 since:Int
 serving:Int
 target:Int
 source:Int
 path:Int
 fresh:Int
 got:Int
 buf:List (List Int)
 deriving DecidableEq
instance : DatL Ms where
 sz:=10
 agg:=true
 cells m:=[.s (.int .i64 m.at_),.s (.int .i64 m.phase),.s (.int .i64 m.since),.s (.int .i64 m.serving),.s (.int .i64 m.target),.s (.int .i64 m.source),.s (.int .i64 m.path),.s (.int .i64 m.fresh),.s (.int .i64 m.got),.sl 1 (m.buf.map Dat.cells)]
 dec | [.s (.int .i64 a),.s (.int .i64 b),.s (.int .i64 c),.s (.int .i64 d),.s (.int .i64 e),.s (.int .i64 f),.s (.int .i64 g),.s (.int .i64 h),.s (.int .i64 i),.sl 1 r]=>(fh r).map fun r'=>⟨a,b,c,d,e,f,g,h,i,r'⟩ | _=>none
 ok:=by
  intro l a h;split at h
  . simp only[za]at h;obtain⟨t',h1,rfl⟩:=h;rw[gj h1]
  . cases h
 decN | [.s (.int .i64 a),.s (.int .i64 b),.s (.int .i64 c),.s (.int .i64 d),.s (.int .i64 e),.s (.int .i64 f),.s (.int .i64 g),.s (.int .i64 h),.s (.int .i64 i),.s (.slice none 0 0)]=>some ⟨a,b,c,d,e,f,g,h,i,[]⟩ | _=>none
 okN:=by
  intro l a h;split at h
  . cases h;simp[bt,cb]
  . cases h
 data:=fun a=>rfl
 one:=fun h=>by cases h
 dec_cells:=fun a=>by simp[fq]
theorem kN (m:Ms):enc m=.agg [.s (.int .i64 m.at_),.s (.int .i64 m.phase),.s (.int .i64 m.since),.s (.int .i64 m.serving),.s (.int .i64 m.target),.s (.int .i64 m.source),.s (.int .i64 m.path),.s (.int .i64 m.fresh),.s (.int .i64 m.got),.sl 1 (m.buf.map Dat.cells)]:=rfl
theorem ms_eq (a b:Ms):decide (a=b)=(decide (a.at_=b.at_) && (decide (a.phase=b.phase) && (decide (a.since=b.since) && (decide (a.serving=b.serving) && (decide (a.target=b.target) && (decide (a.source=b.source) && (decide (a.path=b.path) && (decide (a.fresh=b.fresh) && (decide (a.got=b.got) && decide (a.buf=b.buf)))))))))):=by
 rw[yH];cases a;cases b;simp
theorem Same_c (a b:Ms):FC Tryz.prog 41 [enc a,enc b] [] (enc (decide (a=b))) []:=by
 refine dD [] is41 (by simp) trivial trivial trivial trivial (fun cx _ hl _=>dC [ux] 1500 ?_);rw[ms_eq];delta c41 oO oM oG oF oL oX oP oB oE oJ o7 o9;simp (maxSteps:=9^7) -implicitDefEqProofs only[rv41,ux,kN,WU,Ent.of0,Ent.of1,Ent.of2,Ent.of3,Ent.of4,V,W3,↓reduceIte,seval,reduceCtorEq]
 repeat' split
 all_goals simp_all
def ent41 : Ent Tryz.prog:=.of2 41 (fun _ _=>True) (fun a b:Ms=>enc (decide (a=b))) (fun _ _=>trivial) (fun a b _=>Same_c a b)
def fj : List (List Int)->Int
 |[]=>0
 | r :: l=>(r.length:Int)+fj l
theorem s6 : ∀ l,0<=fj l
 |[]=>by simp[fj]
 | r :: l=>by have:=s6 l;rw[fj];omega
def ej (m:Ms):Bool:=decide (m.phase=2) || decide (m.phase=3)
def dQ (m:Ms) (c:Int):List Int:=m.buf.getD c.toNat []
def iN (k:Int):Bool:=decide (k=3) || decide (k=10)
def evE (n:Nw) (e:T3):Int:=
 if decide (0<=e.x/\e.x<=11)=false then 15 else if eM e.y=false then 2 else if iN e.x=true then (if isC n e.z=true then 0 else 6)else if e.z=0 then 0 else 3
def gc : List Int->Int->List Int
 |[],n=>[n]
 | x :: l,n=>if x < n then x :: gc l n else n :: x :: l
def frm (l:List Int) (g:Int):List Int:=l.filter fun x=>decide (g<=x)
def mrg (bs:List (List Int)):List Int:=bs.flatten.foldl gc []
def iP (m:Ms) (c t:Int):Ms:={ m with phase:=0,since:=t,serving:=c,path:=c,target:=-1,source:=-1,buf:=(m.buf.map fun _=>[]).set c.toNat (frm (mrg m.buf) m.got) }
end Go.Proofs.YtcbabnbiinkafaaGreatDoor
end
