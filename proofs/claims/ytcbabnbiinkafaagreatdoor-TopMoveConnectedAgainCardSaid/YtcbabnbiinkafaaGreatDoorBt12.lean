/- Part 12 of the proof of: the statements about chapter 8 -/
import Derived.Test.YtcbabnbiinkafaaGreatDoorBt11
set_option linter.all false
section
open Go Go.Am
open Go.Am.Dat (cells)
namespace Go.Proofs.YtcbabnbiinkafaaGreatDoor
set_option maxHeartbeats 4000000
set_option maxRecDepth 100000
theorem apply_c (n:Nw) (p:Ph) (e:T3) (k:Nat) (hn:NwS n) (net:NetOk n) (g:dN n p.m) (b:PhK k p) (hk:k<=400000) :
 ∃ q,FC Tryz.prog 118 [.ptr 100000 0,enc e] (phX n p) (enc (fZ n p.m e)) (phX n q)/\(fZ n p.m e=0->q=km n p e):=by
 by_cases hfr:gU n p.m e=0
 . have hev:evE n e=0:=by
    rcases Classical.em (evE n e=0)with q | q
    . exact q
    . rw[gU,if_pos q]at hfr;exact absurd hfr q
   have hat:p.m.at_<=e.y:=by
    rw[gU,if_neg (by simp[hev])]at hfr;rcases Classical.em (e.y < p.m.at_)with q | q
    . rw[if_pos q]at hfr;cases hfr
    . omega
   obtain⟨hx,hy,hcz⟩:=ev_ok hev;have hE:fZ n p.m e=et n (kW n p.m e.y) e:=by
    rw[fZ,if_neg (by simp[hev]),qd,if_neg (by omega)]
   have hE2:et n (kW n p.m e.y) e=et n (eJ n p e.y).m e:=by
    rw[ot];rfl
   have G:=dN.pass net g hat hy.2;have b1:PhB (eJ n p e.y):=by
    have h1:=pB n p e.y;have h3:=b.s0;have h4:=b.s1;have h5:=b.r1;have h6:=b.o1;refine⟨by omega,by omega,by rw[h1.2.1];omega,?_⟩;rcases h1.2.2 with q | q <;> rw[q] <;> omega
   have hm:({ (eJ n p e.y).m with at_:=e.y }:Ms)=kW n p.m e.y:=by rw[ot];rfl
   have hsi:=g.since;have hai:=g.at_;have hli:=net.lim;have b0:PhB p:=by
    have h3:=b.s0;have h4:=b.s1;have h5:=b.r1;exact⟨h3,by omega,by omega,b.o1⟩
   have hdo:DoC n (eJ n p e.y) e:=by
    rw[<- hm]at G;generalize eJ n p e.y=p1 at *;have hle:=net.len;have hlen:p1.m.buf.length=n.cells.length:=G.len;have hpth:isC n p1.m.path=true:=G.pth;have hsrv:isC n p1.m.serving=true:=G.srv;have hsrc:p1.m.source≠-1->isC n p1.m.source=true:=G.src;have htgt:p1.m.target≠-1->isC n p1.m.target=true:=G.tgt;have hc1:p1.m.target≠-1->nbr n p1.m.target p1.m.serving=true:=G.c1;have hc2:p1.m.source≠-1->nbr n p1.m.source p1.m.serving=true:=G.c2;have hf2:p1.m.target=-1->p1.m.phase≠1/\p1.m.phase≠2:=G.f2;have hf3:p1.m.source≠-1->p1.m.phase≠1/\p1.m.phase≠2/\p1.m.target=-1:=G.f3;have hf4:p1.m.path≠p1.m.serving->p1.m.source≠-1/\p1.m.path=p1.m.source:=G.f4;have hbusy:p1.m.source≠-1->p1.m.path=p1.m.serving->dO p1.m p1.m.source≠[]:=G.busy;have hlarge:p1.m.buf.flatten.length<=60:=G.large;have hfresh:0<=p1.m.fresh/\p1.m.fresh<=1000000:=G.fresh;have hgot:0<=p1.m.got/\p1.m.got<=p1.m.fresh:=G.got;have hbl:∀ c,(dO p1.m c).length<=60:=fun c=>ap_len G.toG0 c
    have hasc:∀ c,(dO p1.m c).Pairwise (·<=·):=fun c=>pJ (G.toG0.asc_at c.toNat)
    have ix:∀ {c:Int},isC n c=true->0<=c/\c.toNat < p1.m.buf.length:=fun h=>by
     have:=fH h;omega
    clear hE hE2 hm;have hst:(e.x=6->p1.m.phase=2)->e.x≠7->e.x≠8->settle (eG p1.m e)=eG p1.m e:=fun h6 h7 h8=>by
     refine sK net hlen hpth hsrv hsrc htgt hc1 hc2 hbusy (fun q=>?_) hx h7 h8;have h2:=h6 q;have ht:p1.m.target≠-1:=fun q2=>(hf2 q2).2 h2
     refine⟨ht,?_⟩;rcases Classical.em (p1.m.path=p1.m.serving)with q2 | q2
     . exact q2
     . exact absurd h2 (hf3 (hf4 q2).1).2.1
    obtain⟨x,y,z⟩:=e;simp only at hx hy hcz hst;have hxs:x=0\/x=1\/x=2\/x=3\/x=4\/x=5\/x=6\/x=7\/x=8\/x=9\/x=10\/x=11:=by omega
    rcases hxs with q | q | q | q | q | q | q | q | q | q | q | q <;> subst q
    . exact do_data n p1 y z hlarge (by omega) (ix hpth) hfresh (hbl _) (hst (by omega) (by omega) (by omega))
    . exact do_send n p1 y z (ix hsrv) (by omega) b1.r1 (hst (by omega) (by omega) (by omega))
    . exact do_ack n p1 y z (ix hsrv) (hbl _) (hst (by omega) (by omega) (by omega))
    . exact so n p1 y z (hst (by omega) (by omega) (by omega))
    . exact s7 n p1 y z (hst (by omega) (by omega) (by omega))
    . exact sm n p1 y z (hst (by omega) (by omega) (by omega))
    . by_cases h2:p1.m.phase=2
      . exact rt n p1 y z b1 hy (hst (fun _=>h2) (by omega) (by omega))
      . have hD:et n p1.m ⟨6,y,z⟩=22:=by
         show (if p1.m.phase≠2 then (22:Int)else 0)=22
         rw[if_pos h2]
        unfold DoC;rw[hD];exact⟨p1,ng n p1 ⟨6,y,z⟩ h2,fun q=>by cases q⟩
    . refine sn n p1 y z (fun h=>?_) (hasc _) hbl (fun q=>ix (hsrc q));by_cases h2:p1.m.phase=2
      . have ht:p1.m.target≠-1:=fun q2=>(hf2 q2).2 h2
        rw[dU,toC,if_pos h2,if_pos h2];exact⟨ix hsrv,ix (htgt ht),fun h=>net.ne _ _ (hc1 ht) h.symm⟩
      . have hs:p1.m.source≠-1:=by
         rcases h with h | h
         . exact absurd h h2
         . exact h.2
        rw[dU,toC,if_neg h2,if_neg h2];exact⟨ix (hsrc hs),ix hsrv,net.ne _ _ (hc2 hs)⟩
    . exact do_turn n p1 y z (fun q=>ix (hsrc q))
    . exact do_fail n p1 y z (hst (by omega) (by omega) (by omega))
    . have hc:=hcz (by simp[iz]);exact sq n p1 y z hc (qy hn net hlen hlarge b1 hc (by omega))
    . exact do_pass n p1 y z (hst (by omega) (by omega) (by omega))
   obtain⟨q,hq,hq2⟩:=hdo;refine⟨if et n (eJ n p e.y).m e=0 then atP q e.y else q,?_,fun h=>?_⟩
   . rw[hE,hE2];exact apply_k n p e hn hev hat (by simp only[InR];omega) (fun _=>qy hn net g.len g.large b0 (by simp only[isC,decide_eq_true_eq];have:=net.len;omega) (by omega)) q _ hx hq
   . rw[hE,hE2]at h;rw[if_pos h,hq2 h];rfl
 . have hE:fZ n p.m e=gU n p.m e:=by
    unfold fZ gU qd;by_cases h:evE n e≠0
    . rw[if_pos h,if_pos h]
    . rw[if_neg h,if_neg h];by_cases h2:e.y < p.m.at_
      . rw[if_pos h2,if_pos h2]
      . exfalso
        rw[gU,if_neg h,if_neg h2]at hfr;exact hfr rfl
   rw[hE];exact⟨p,apply_e n p e hn hfr,fun h=>absurd h hfr⟩
def phY (n:Nw) (p:Ph) (a b:Nat):Chs:=[(a,.box (phC n p b)),(b,.deep 1 3 24 none (fB p.m.buf))]
end Go.Proofs.YtcbabnbiinkafaaGreatDoor
end
