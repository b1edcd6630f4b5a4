/- Part of the proof of TopStarver: what functions of the program do. -/
import Derived.Test.YtiebppkhaiofeaaGreatS35
set_option maxHeartbeats 4000000
set_option maxRecDepth 100000
set_option linter.unusedVariables false
set_option linter.unusedSimpArgs false
namespace Go.Proofs.YtiebppkhaiofeaaGreat.K
open Go.RowKit Go.Proofs.YtiebppkhaiofeaaGreatW.PrintWords Go.Proofs.YtiebppkhaiofeaaGreat.S
attribute [local go_sem] World.cell?_alloc_some
open Go.ChangeMaps Go.MapKept
section
variable {c:Cfg} {s s':S.World} {b q:Nat} {p:WPt} {K K':Nat->Nat} {w w' w1 X:Go.World} {G:Set_} {ls:List Let} {ds:List S.Done} {vl vd:Value}
theorem WA.netted {xs:List Let} (h:WA c s b p ls ds q K w) (hb:Below w.heap.size w X) (hN:NetAt c.cap xs p.y (gr (fun x=>x < w.heap.size/\K x=3) X) w') (hk:KS (fun x=>x < w.heap.size/\K x=3) X w') :
  ∃ K2,(∀ x,x < w.heap.size->K2 x=K x)/\(∀ x,w.heap.size≤x->x < X.heap.size->K2 x=200)/\WA c { s with way:=xs } b p ls ds q K2 w'/\KS (fun x=>K x≤101) w w':=by
 have hs:=hb.size
 have h1:=h.below hb
 have hk':KS (fun x=>rec_ K w 200 x=3) X w':=hk.mono (fun x _ hx=>by show rec_ K w 200 x=_;rw[rec_old hx.1];exact hx.2)
 have hN':NetAt c.cap xs p.y (gr (fun x=>rec_ K w 200 x=3) X) w':=hN.keep (KS.refl (fun _=>False) _) (fun x _ hx=>⟨hx.imp (fun h=>by show rec_ K w 200 x=3;rw[rec_old h.1];exact h.2) id,id⟩)
 exact⟨rec_ (rec_ K w 200) X 3,fun x hx=>(rec_old (by omega)).trans (rec_old hx),fun x hx hx2=>(rec_old hx2).trans (rec_new hx),h1.net hN' hk',(KS.below _ hb).trans hk (fun x _ hx=>by show K x≤101;have:=hx.2;omega)⟩
theorem WA.homed {h':S.Home} {v1:Value} (h:WA c s b p ls ds q K w) (hb:Below w.heap.size w X) (hN:HomeAt c h' p.h G w') (hG:∀ x,x < X.heap.size->G x->(x < w.heap.size/\K x=2)) (hf1:∀ x∈foot v1,X.heap.size≤x/\¬ G x) (hk:KS (fun x=>x < w.heap.size/\K x=2) X w') :
  ∃ K2,(∀ x,x < w.heap.size->K2 x=K x)/\(∀ x,w.heap.size≤x->x < X.heap.size->K2 x=200)/\WA c { s with home:=h' } b p ls ds q K2 w'/\(∀ x∈foot v1,K2 x=200)/\KS (fun x=>K x≤101) w w':=by
 have hs:=hb.size
 have h1:=h.below hb
 have hk':KS (fun x=>rec_ K w 200 x=2) X w':=hk.mono (fun x _ hx=>by show rec_ K w 200 x=_;rw[rec_old hx.1];exact hx.2)
 exact⟨recG (rec_ K w 200) X G 2,fun x hx=>(recG_old (by omega)).trans (rec_old hx),fun x hx hx2=>(recG_old hx2).trans (rec_new hx),h1.home hN (fun x hx hg=>by have:=hG x hx hg;rw[rec_old this.1];exact this.2) hk',fun x hx=>recG_out (hf1 x hx).1 (hf1 x hx).2,(KS.below _ hb).trans hk (fun x _ hx=>by show K x≤101;have:=hx.2;omega)⟩
end
theorem WA.sent {c:Cfg} {s:S.World} {b q:Nat} {p:WPt} {K:Nat->Nat} {w:Go.World} {ds:List S.Done} {ls0 ls:List Let} {v:Value} (h:WA c s b p ls0 ds q K w) (hO:OwnE letE v ls w) (hf:∀ x∈foot v,K x=200) :
  ∃ K',(∀ x,x∉foot v->K' x=K x)/\WA c s b p ls ds q K' (w.setCell ⟨q,0,none⟩ v):=by
 obtain⟨h1,vl,vd,k1,k2,k3,k4,k5,k6,k7,k8,k9⟩:=h
 have hq:q∉foot v:=fun e=>by have:=hf q e;omega
 have hd:∀ x∈foot v,x∉foot vd:=fun x hx hd=>by have:=hf x hx;have:=k9 x hd;omega
 have hk2:=KS.set (KS.refl (fun x=>x=q) w) (.inl rfl) 0 v (g:=q)
 classical
 refine⟨fun x=>if x∈foot v then 101 else K x,fun x hx=>if_neg hx,h1.keep hk2 (fun x hx h5=>⟨if_neg (fun e=>by have:=hf x e;omega),fun e=>by have e':x=q:=e;rw[e'] at h5;omega⟩),v,vd,(blk_set k1 0 v).trans (by simp),hO.ks hk2 (fun x hx e=>hq (e ▸ hx)),k3.ks hk2 (fun x hx e=>k5 (e ▸ hx)),hq,k5,hd,?_,fun x hx=>if_pos hx,fun x hx=>?_⟩
 ·simp only[if_neg hq];exact k7
 ·by_cases e:x∈foot v
  ·exact if_pos e
  ·simp only[if_neg e];exact k9 x hx
theorem kchainL {A X F:Go.World} {G:Set_} {q:Nat} (hl:KS G X F) (h:KS (fun y=>G y∨y=q) A X):KS (fun y=>G y∨y=q) A F:=h.trans hl (fun _ _ h=>.inl h)
theorem zblkL {Y F:Go.World} {G:Set_} (hl:KS G (Y.alloc (.cells #[.int .i64 0,.int .i64 0,.int .i64 0,.int .i64 0,.int .i64 0,.int .i64 0,.bool false,.int .i64 0,.bool false,.bool false,.int .i64 0] 47)).drew F) (hG:¬ G Y.heap.size):F.heap[Y.heap.size]?=some (.cells #[.int .i64 0,.int .i64 0,.int .i64 0,.int .i64 0,.int .i64 0,.int .i64 0,.bool false,.int .i64 0,.bool false,.bool false,.int .i64 0] 47 (0,0)):=hl.at_ (blk_drew (blk_new Y _)) hG
theorem worldDeliver_aux {c:Cfg} {s:S.World} {b q:Nat} {p:WPt} {K:Nat->Nat} {w:Go.World} (hW:WA c s b p [] [] q K w) (k a2 b2 c2 d2:Int) (hz:Bool) (lk lf lt lb lq lw:Int) (lwr:Bool) (lc:Int) (lo lh:Bool) (ld:Int) (hh:netHas s.way a2=hz) (hg:netGot s.way a2=⟨lk,lf,lt,lb,lq,lw,lwr,⟨lc,lo,lh,ld⟩⟩)
  (hql:∀ r∈s.home.queue.rows,r.queue.length≤1000000) (hd:hz=true->lt=c.nodes∨∃ i:Nat,lt=(i:Int)/\i < p.ns.length/\lt≠c.nodes) (R:S.World×List Let×List S.Done) (hR:R=if hz then (if lt=c.nodes then ({ s with way:=netLeft s.way a2,home:=(s.home.take c ⟨lk,lf,lt,lb,lq,lw,lwr,⟨lc,lo,lh,ld⟩⟩ ⟨b2,c2,d2⟩).1 },(s.home.take c ⟨lk,lf,lt,lb,lq,lw,lwr,⟨lc,lo,lh,ld⟩⟩ ⟨b2,c2,d2⟩).2,[]) else ({ s with way:=netLeft s.way a2,nodes:=s.nodes.set lt.toNat ((s.nodes.getD lt.toNat (S.Node.new lt.toNat)).take c ⟨lk,lf,lt,lb,lq,lw,lwr,⟨lc,lo,lh,ld⟩⟩ ⟨b2,c2,d2⟩).1 },((s.nodes.getD lt.toNat (S.Node.new lt.toNat)).take c ⟨lk,lf,lt,lb,lq,lw,lwr,⟨lc,lo,lh,ld⟩⟩ ⟨b2,c2,d2⟩).2.letters,((s.nodes.getD lt.toNat (S.Node.new lt.toNat)).take c ⟨lk,lf,lt,lb,lq,lw,lwr,⟨lc,lo,lh,ld⟩⟩ ⟨b2,c2,d2⟩).2.done)) else ({ s with way:=netLeft s.way a2 },[],[]))
  (hlen:R.2.1.length≤1000/\R.2.2.length≤1000) :
  Calls Tryz.prog 30 #[.pointer (some ⟨b,0,none⟩),.agg #[.int .i64 k,.int .i64 a2,.int .i64 b2,.int .i64 c2,.int .i64 d2],.pointer (some ⟨q,0,none⟩)] w (WP (.bool hz) c R.1 b p R.2.1 R.2.2 q K w):=by
 have HW:=AS hW
 have HQL:=AS hql
 have HLN:=AS hlen
 have HR:=AS hR
 have HD:=AS hd
 have hbl:=blk_lt hW.1.1
 have HB0:=AS hW.1.2.1
 have NT:=AS (show ∀ W X,Below w.heap.size w W->Below W.heap.size W X->Calls Tryz.prog 57 _ X _ from fun W X h1 h2=>netTake_any a2 (hW.1.2.2.2.2.2.1.keep (F':=fun x=>x < w.heap.size/\K x=3) (KS.below (fun _=>False) (h1.trans (h2.mono h1.size))) (fun x hx hF=>⟨⟨hx,hF⟩,id⟩)))
 rw[hh,hg] at NT
 simp only[letV] at NT
 clear hW hql hlen hR hd hg
 have BX:=AS (blk_new w (.cells #[.int .i64 k,.int .i64 a2,.int .i64 b2,.int .i64 c2,.int .i64 d2] 33))
 have BE:=AS (below_alloc (Below.refl w.heap.size w) (.cells #[.int .i64 k,.int .i64 a2,.int .i64 b2,.int .i64 c2,.int .i64 d2] 33))
 have SZ:=AS (sz_alloc w (.cells #[.int .i64 k,.int .i64 a2,.int .i64 b2,.int .i64 c2,.int .i64 d2] 33))
 go_enter Tryz.func30,Tryz.ntmps30
 go_upto_region 1 with fail
 generalize w.alloc (.cells #[.int .i64 k,.int .i64 a2,.int .i64 b2,.int .i64 c2,.int .i64 d2] 33)=W at BX BE SZ ⊢
 have NT:=AS (fun X h=>NT.out W X BE.out h)
 have KEEP:=AS (show ∀ x,KS (fun y=>y < w.heap.size/\K y=3) W x->(x.cell? ⟨b,13,none⟩=some (.pointer (some ⟨p.y,0,none⟩))/\x.cell? ⟨w.heap.size,0,none⟩=some (.int .i64 k)/\x.cell? ⟨w.heap.size,1,none⟩=some (.int .i64 a2)/\x.cell? ⟨w.heap.size,2,none⟩=some (.int .i64 b2)/\x.cell? ⟨w.heap.size,3,none⟩=some (.int .i64 c2)/\x.cell? ⟨w.heap.size,4,none⟩=some (.int .i64 d2)) from fun x hx=>by
  have hb1:=hx.at_ (blk_below HW.out.1.1 BE.out) (fun h=>by have h2:=h.2;rw[HB0.out] at h2;omega)
  have hb2:=hx.at_ BX.out (fun h=>by have h2:=h.1;omega)
  exact⟨cw hb1 13,cw hb2 0,cw hb2 1,cw hb2 2,cw hb2 3,cw hb2 4⟩)
 have ZF:=AS (show ∀ (x:Go.World) (g:Nat),x.heap[g]?=some (.cells #[.int .i64 0,.int .i64 0,.int .i64 0,.int .i64 0,.int .i64 0,.int .i64 0,.bool false,.int .i64 0,.bool false,.bool false,.int .i64 0] 47 (0,0))->(x.cell? ⟨g,0,none⟩=some (.int .i64 0)/\x.cell? ⟨g,1,none⟩=some (.int .i64 0)/\x.cell? ⟨g,2,none⟩=some (.int .i64 0)/\x.cell? ⟨g,3,none⟩=some (.int .i64 0)/\x.cell? ⟨g,4,none⟩=some (.int .i64 0)/\x.cell? ⟨g,5,none⟩=some (.int .i64 0)/\x.cell? ⟨g,6,none⟩=some (.bool false)/\x.cell? ⟨g,7,none⟩=some (.int .i64 0)/\x.cell? ⟨g,8,none⟩=some (.bool false)/\x.cell? ⟨g,9,none⟩=some (.bool false)/\x.cell? ⟨g,10,none⟩=some (.int .i64 0)/\x.frozen? ⟨g,0,none⟩=false/\x.frozen? ⟨g,1,none⟩=false/\x.frozen? ⟨g,2,none⟩=false/\x.frozen? ⟨g,3,none⟩=false/\x.frozen? ⟨g,4,none⟩=false/\x.frozen? ⟨g,5,none⟩=false/\x.frozen? ⟨g,6,none⟩=false/\x.frozen? ⟨g,7,none⟩=false/\x.frozen? ⟨g,8,none⟩=false/\x.frozen? ⟨g,9,none⟩=false/\x.frozen? ⟨g,10,none⟩=false) from fun x g h=>⟨cw h 0,cw h 1,cw h 2,cw h 3,cw h 4,cw h 5,cw h 6,cw h 7,cw h 8,cw h 9,cw h 10,blk_frozen h 0,blk_frozen h 1,blk_frozen h 2,blk_frozen h 3,blk_frozen h 4,blk_frozen h 5,blk_frozen h 6,blk_frozen h 7,blk_frozen h 8,blk_frozen h 9,blk_frozen h 10⟩)
 obtain⟨e0_,e1_,e2_,e3_,e4_,e5_⟩:=KEEP.out W (KS.refl _ _)
 go_cut [7,8] (fun v7 v8 wx=>(∃ g7 K2,v7=.pointer (some ⟨g7,0,none⟩)/\v8=.bool hz/\wx.heap[g7]?=some (.cells #[.int .i64 lk,.int .i64 lf,.int .i64 lt,.int .i64 lb,.int .i64 lq,.int .i64 lw,.bool lwr,.int .i64 lc,.bool lo,.bool lh,.int .i64 ld] 47 (0,0))/\w.heap.size < g7/\K2 g7=200/\(∀ x,x < w.heap.size->K2 x=K x)/\WA c { s with way:=netLeft s.way a2 } b p [] [] q K2 wx/\wx.heap[w.heap.size]?=some (.cells #[.int .i64 k,.int .i64 a2,.int .i64 b2,.int .i64 c2,.int .i64 d2] 33 (0,0))/\K2 w.heap.size=200/\KS (fun x=>K x≤101) w wx))
 case first =>
  go_region_held3 (fun x=>x.cell? ⟨b,13,none⟩=some (.pointer (some ⟨p.y,0,none⟩))/\x.cell? ⟨w.heap.size,0,none⟩=some (.int .i64 k)/\x.cell? ⟨w.heap.size,1,none⟩=some (.int .i64 a2)/\x.cell? ⟨w.heap.size,2,none⟩=some (.int .i64 b2)/\x.cell? ⟨w.heap.size,3,none⟩=some (.int .i64 c2)/\x.cell? ⟨w.heap.size,4,none⟩=some (.int .i64 d2)) ((refine KEEP.out _ ?_;(repeat (first | (with_reducible refine KS.set ?_ (.inr ?_) _ _;rotate_left;(focus (first | omega | (simp only[sz_alloc,sz_drew];omega)))) | with_reducible refine kchain H1.out ?_ | with_reducible apply KS.alloc | with_reducible apply KS.drew | with_reducible exact KS.refl _ _)))) ((first | (go_at_call 57;refine(NT.out _ ?_).mono ?_;(focus ((repeat (with_reducible first | exact Below.refl _ _ | apply below_alloc | apply Below.drew))));rintro e w1 ⟨rfl,hN,hk⟩;have hX:=hk.size;(first | rw[sz_alloc] at hX | rw[sz_drew,sz_alloc] at hX);clear hX;have H1:=AS hk;have F1:=AS hN;clear hN hk;have QF:Aside0 (w1.heap[W.heap.size]?=some (.cells #[.int .i64 0,.int .i64 0,.int .i64 0,.int .i64 0,.int .i64 0,.int .i64 0,.bool false,.int .i64 0,.bool false,.bool false,.int .i64 0] 47 (0,0))):=AS (zblkL H1.out (fun h=>by have h0:=h.1;have z0:=SZ.out;omega));obtain⟨q0_,q1_,q2_,q3_,q4_,q5_,q6_,q7_,q8_,q9_,q10_,q11_,q12_,q13_,q14_,q15_,q16_,q17_,q18_,q19_,q20_,q21_⟩:=ZF.out _ _ QF.out) | (go_at_call 57;refine(NT.out _ ?_).mono ?_;(focus ((repeat (with_reducible first | exact Below.refl _ _ | apply below_alloc | apply Below.drew))));rintro e w1 ⟨rfl,hN,hk⟩;have hX:=hk.size;clear hX;have H1:=AS hk;have F1:=AS hN;clear hN hk)))
  ·go_wp2_with fail
   go_meet
   have s0:=SZ.out
   have s1:=H1.out.size
   simp only[sz_alloc,sz_drew,sz_set] at s1
   obtain⟨K2,k1,k2,k3,k6⟩:=HW.out.netted (BE.out.trans (Below.mono (B:=W.heap.size) (by (repeat (with_reducible first | exact Below.refl _ _ | apply below_alloc | apply Below.drew))) (by omega))) F1.out H1.out
   refine⟨w1.heap.size,rec_ K2 w1 200,rfl,rfl,?_,by omega,?_,fun x hx=>(rec_old (by omega)).trans (k1 x hx),k3.boxed (g:=w1.heap.size) ?_ (fun hx=>k2 _ (by omega) (by (try simp only[sz_alloc,sz_drew]);omega)),?_,?_,k6.trans (G:=fun y=>y=w1.heap.size) ?_ (fun x hx e=>?_)⟩
   ·apply blk_as
    ·(repeat (with_reducible first | apply blk_set | apply blk_new | exact QF.out))
    ·simp
   ·by_cases h:w1.heap.size < w1.heap.size
    ·rw[rec_old h];exact k2 _ (by omega) (by (try simp only[sz_alloc,sz_drew]);omega)
    ·exact rec_new (by omega)
   ·(repeat (with_reducible first | refine KS.set1 ?_ _ _ | apply KS.alloc | apply KS.drew | exact KS.refl _ _))
   ·refine KS.at_ (F:=fun y=>y=w1.heap.size) (w:=w1) ?_ (H1.out.at_ (show(_:Go.World).heap[w.heap.size]?=_ from ?_) (fun h=>by have h0:=h.1;omega)) (fun e=>?_)
    ·(repeat (with_reducible first | refine KS.set1 ?_ _ _ | apply KS.alloc | apply KS.drew | exact KS.refl _ _))
    ·first | exact BX.out | exact blk_drew BX.out | exact blk_drew (blk_alloc BX.out _)
    ·have e':w.heap.size=w1.heap.size:=e
     omega
   ·rw[rec_old (by omega)];exact k2 _ (Nat.le_refl _) (by (try simp only[sz_alloc,sz_drew]);omega)
   ·(repeat (with_reducible first | refine KS.set1 ?_ _ _ | apply KS.alloc | apply KS.drew | exact KS.refl _ _))
   ·have e':x=w1.heap.size:=e
    omega
  ·go_wp2_with fail
   go_meet
   have s0:=SZ.out
   have s1:=H1.out.size
   simp only[sz_alloc,sz_drew,sz_set] at s1
   obtain⟨K2,k1,k2,k3,k6⟩:=HW.out.netted (BE.out.trans (Below.mono (B:=W.heap.size) (by (repeat (with_reducible first | exact Below.refl _ _ | apply below_alloc | apply Below.drew))) (by omega))) F1.out H1.out
   refine⟨W.heap.size,rec_ K2 w1 200,rfl,rfl,?_,by omega,?_,fun x hx=>(rec_old (by omega)).trans (k1 x hx),k3.boxed (g:=W.heap.size) ?_ (fun hx=>k2 _ (by omega) (by (try simp only[sz_alloc,sz_drew]);omega)),?_,?_,k6.trans (G:=fun y=>y=W.heap.size) ?_ (fun x hx e=>?_)⟩
   ·apply blk_as
    ·(repeat (with_reducible first | apply blk_set | apply blk_new | exact QF.out))
    ·simp
   ·by_cases h:W.heap.size < w1.heap.size
    ·rw[rec_old h];exact k2 _ (by omega) (by (try simp only[sz_alloc,sz_drew]);omega)
    ·exact rec_new (by omega)
   ·(repeat (with_reducible first | refine KS.set1 ?_ _ _ | apply KS.alloc | apply KS.drew | exact KS.refl _ _))
   ·refine KS.at_ (F:=fun y=>y=W.heap.size) (w:=w1) ?_ (H1.out.at_ (show(_:Go.World).heap[w.heap.size]?=_ from ?_) (fun h=>by have h0:=h.1;omega)) (fun e=>?_)
    ·(repeat (with_reducible first | refine KS.set1 ?_ _ _ | apply KS.alloc | apply KS.drew | exact KS.refl _ _))
    ·first | exact BX.out | exact blk_drew BX.out | exact blk_drew (blk_alloc BX.out _)
    ·have e':w.heap.size=W.heap.size:=e
     omega
   ·rw[rec_old (by omega)];exact k2 _ (Nat.le_refl _) (by (try simp only[sz_alloc,sz_drew]);omega)
   ·(repeat (with_reducible first | refine KS.set1 ?_ _ _ | apply KS.alloc | apply KS.drew | exact KS.refl _ _))
   ·have e':x=W.heap.size:=e
    omega
 case rest =>
  obtain⟨g7,K2,rfl,rfl,hL,hg7,hK7,hK2,hWA,hE,hKE,hks⟩:=hcut
  clear e0_ e1_ e2_ e3_ e4_ e5_
  have LX:=AS hL
  have EX:=AS hE
  have WX:=AS hWA
  have KX:=AS (And.intro hK2 (And.intro hks (And.intro hK7 hKE)))
  have E0:=hWA.1.1
  clear hL hE hWA hK2 hks hK7 hKE
  cases hz with
  | false =>
   have hr:=HR.out
   simp only[Bool.false_eq_true,if_false] at hr
   clear E0
   go_wp2
   go_ret
   rw[hr]
   exact⟨rfl,K2,KX.out.1,WX.out,KX.out.2.1⟩
  | true =>
   have hr0:=HR.out
   simp only[if_true] at hr0
   have f2:=cw LX.out 2 (v:=.int .i64 lt)
   have f0:=cw E0 0 (v:=.int .i64 c.nodes)
   clear E0
   by_cases hto:lt=c.nodes
   ·have hd1:(lt == c.nodes)=true:=by simp[hto]
    have hr:=hr0.trans (if_pos hto)
    clear hr0 HD
    have HRR:=AS hr
    have HTO:=AS hto
    clear hto hr
    go_wp2_with fail
    go_quiet (fail)
    go_upto_region 6 with fail
    have LY:=AS (blk_drewN LX.out nq)
    have EY:=AS (blk_drewN EX.out nq)
    have WY:=AS (WX.out.keep (K':=K2) (w':=wc.drewN nq) (KS.below (fun _=>False) (bdN wc nq)) (fun x _ _=>⟨rfl,id⟩))
    have KY:=AS (show(∀ x,x < w.heap.size->K2 x=K x)/\KS (fun x=>K x≤101) w (wc.drewN nq)/\K2 g7=200/\K2 w.heap.size=200 from⟨KX.out.1,KX.out.2.1.andBelow (bdN wc nq),KX.out.2.2⟩)
    have hlt1:=blk_lt LX.out
    clear f2 f0 LX EX WX KX
    generalize wc.drewN nq=wd at LY EY WY KY ⊢
    have hlg:=blk_lt LY.out
    have hle:=blk_lt EY.out
    have HT:=AS (show ∀ X,Below wd.heap.size wd X->Calls Tryz.prog 58 _ X _ from fun X h=>homeTake_at (WY.out.1.2.2.2.2.1.keep (F':=fun x=>x < wd.heap.size/\K2 x=2) (KS.below (fun _=>False) h) (fun x hx hF=>⟨⟨hx,hF⟩,id⟩)) HQL.out ⟨lk,lf,lt,lb,lq,lw,lwr,⟨lc,lo,lh,ld⟩⟩ ⟨b2,c2,d2⟩)
    have DR:=AS (fun X=>draws_any k a2 b2 c2 d2 X)
    simp only[letV,drwV] at HT DR
    have HRR:=HRR
    generalize (Home.take c s.home ⟨lk,lf,lt,lb,lq,lw,lwr,⟨lc,lo,lh,ld⟩⟩ ⟨b2,c2,d2⟩)=R2 at HT HRR
    obtain⟨h',ls'⟩:=R2
    have KEEP:=AS (show ∀ x,KS (fun y=>(y < wd.heap.size/\K2 y=2)∨y=q) wd x->(x.cell? ⟨b,12,none⟩=some (.pointer (some ⟨p.h,0,none⟩))/\x.cell? ⟨g7,0,none⟩=some (.int .i64 lk)/\x.cell? ⟨g7,1,none⟩=some (.int .i64 lf)/\x.cell? ⟨g7,2,none⟩=some (.int .i64 lt)/\x.cell? ⟨g7,3,none⟩=some (.int .i64 lb)/\x.cell? ⟨g7,4,none⟩=some (.int .i64 lq)/\x.cell? ⟨g7,5,none⟩=some (.int .i64 lw)/\x.cell? ⟨g7,6,none⟩=some (.bool lwr)/\x.cell? ⟨g7,7,none⟩=some (.int .i64 lc)/\x.cell? ⟨g7,8,none⟩=some (.bool lo)/\x.cell? ⟨g7,9,none⟩=some (.bool lh)/\x.cell? ⟨g7,10,none⟩=some (.int .i64 ld)/\x.cell? ⟨w.heap.size,0,none⟩=some (.int .i64 k)/\x.cell? ⟨w.heap.size,1,none⟩=some (.int .i64 a2)/\x.cell? ⟨w.heap.size,2,none⟩=some (.int .i64 b2)/\x.cell? ⟨w.heap.size,3,none⟩=some (.int .i64 c2)/\x.cell? ⟨w.heap.size,4,none⟩=some (.int .i64 d2)) from fun x hx=>by
     have hne:∀ y,K2 y=200∨K2 y=0->¬ ((y < wd.heap.size/\K2 y=2)∨y=q):=fun y hy h=>by
      have hq:=WY.out.2
      obtain⟨vl,vd,-,-,-,-,-,-,hq7,-⟩:=hq
      rcases h with h | h
      ·omega
      ·rw[h,hq7] at hy;omega
     have hb1:=hx.at_ WY.out.1.1 (hne _ (.inr WY.out.1.2.1))
     have hb2:=hx.at_ LY.out (hne _ (.inl KY.out.2.2.1))
     have hb3:=hx.at_ EY.out (hne _ (.inl KY.out.2.2.2))
     exact⟨cw hb1 12,cw hb2 0,cw hb2 1,cw hb2 2,cw hb2 3,cw hb2 4,cw hb2 5,cw hb2 6,cw hb2 7,cw hb2 8,cw hb2 9,cw hb2 10,cw hb3 0,cw hb3 1,cw hb3 2,cw hb3 3,cw hb3 4⟩)
    have hqd:=WY.out.2
    obtain⟨vl,vd,hq1,-,-,-,-,-,hq7,-⟩:=hqd
    have QB:=AS hq1
    have Q7:=AS hq7
    clear hq1 hq7
    obtain⟨e0_,e1_,e2_,e3_,e4_,e5_,e6_,e7_,e8_,e9_,e10_,e11_,e12_,e13_,e14_,e15_,e16_⟩:=KEEP.out wd (KS.refl _ _)
    go_region_held3 (fun x=>x.cell? ⟨b,12,none⟩=some (.pointer (some ⟨p.h,0,none⟩))/\x.cell? ⟨g7,0,none⟩=some (.int .i64 lk)/\x.cell? ⟨g7,1,none⟩=some (.int .i64 lf)/\x.cell? ⟨g7,2,none⟩=some (.int .i64 lt)/\x.cell? ⟨g7,3,none⟩=some (.int .i64 lb)/\x.cell? ⟨g7,4,none⟩=some (.int .i64 lq)/\x.cell? ⟨g7,5,none⟩=some (.int .i64 lw)/\x.cell? ⟨g7,6,none⟩=some (.bool lwr)/\x.cell? ⟨g7,7,none⟩=some (.int .i64 lc)/\x.cell? ⟨g7,8,none⟩=some (.bool lo)/\x.cell? ⟨g7,9,none⟩=some (.bool lh)/\x.cell? ⟨g7,10,none⟩=some (.int .i64 ld)/\x.cell? ⟨w.heap.size,0,none⟩=some (.int .i64 k)/\x.cell? ⟨w.heap.size,1,none⟩=some (.int .i64 a2)/\x.cell? ⟨w.heap.size,2,none⟩=some (.int .i64 b2)/\x.cell? ⟨w.heap.size,3,none⟩=some (.int .i64 c2)/\x.cell? ⟨w.heap.size,4,none⟩=some (.int .i64 d2)) ((refine KEEP.out _ ?_;(repeat (first | (with_reducible refine KS.set ?_ (.inl (.inr rfl)) _ _) | with_reducible refine kchainL H2.out ?_ | with_reducible refine KS.andBelow ?_ H1.out | with_reducible apply KS.alloc | with_reducible apply KS.drew | with_reducible exact KS.refl _ _)))) ((first | (go_at_call 59;refine(DR.out _).mono ?_;rintro e w1 ⟨rfl,hb⟩;have H1:=AS hb;clear hb) | (go_at_call 58;refine(HT.out _ ?_).mono ?_;(focus ((repeat (with_reducible first | refine bchain H1.out ?_ | apply below_alloc | apply Below.drew | exact Below.refl _ _))));rintro e w2 ⟨A1,cc1,G,rfl,hN,hG,ho,hf,hk⟩;have H2:=AS hk;have F2:=AS (And.intro hN (And.intro hG (And.intro ho hf)));clear hN hG ho hf hk;have Q2:=AS (H2.out.at_ (blk_below QB.out (show Below wd.heap.size wd w1 from(Below.drew (Below.refl _ _)).trans H1.out)) (fun h=>by have h0:=h.2;rw[Q7.out] at h0;omega));have y0_:w2.cell? ⟨q,0,none⟩=some vl:=cw Q2.out 0;have y1_:=blk_frozen Q2.out 0)))
    all_goals
     have FF:=AS (show ∃ K3,(∀ x,x < wd.heap.size->K3 x=K2 x)/\WA c { s with way:=netLeft s.way a2,home:=h' } b p [] [] q K3 w2/\(∀ x∈foot (.slice A1 ls'.length cc1),K3 x=200/\wd.heap.size≤x)/\KS (fun x=>K2 x≤101) wd w2 from by
      obtain⟨hN,hG,ho,hf⟩:=F2.out
      have hs1':wd.heap.size≤w1.heap.size:=H1.out.size
      obtain⟨K3,k1,k2,k3,k4,k5⟩:=WY.out.homed (v1:=.slice A1 ls'.length cc1) (show Below wd.heap.size wd w1 from(Below.drew (Below.refl _ _)).trans H1.out) hN hG hf H2.out
      exact⟨K3,k1,k3,fun x hx=>⟨k4 x hx,by have:=(hf x hx).1;omega⟩,k5⟩)
     clear e0_ e1_ e2_ e3_ e4_ e5_ e6_ e7_ e8_ e9_ e10_ e11_ e12_ e13_ e14_ e15_ e16_
     go_wp2
     go_ret
     obtain⟨K3,k1,k3,k4,k5⟩:=FF.out
     obtain⟨K4,a1,a2⟩:=k3.sent F2.out.2.2.1 (fun x hx=>(k4 x hx).1)
     obtain⟨y1,y2,-⟩:=KY.out
     have hs:=y2.size
     rw[HRR.out]
     refine⟨rfl,K4,fun x hx=>(a1 x (fun h=>by have:=(k4 x h).2;omega)).trans ((k1 x (by omega)).trans (y1 x hx)),a2,?_⟩
     have hkk:=y2.trans k5 (fun x hx h=>by have h':K2 x≤101:=h;rw[y1 x hx] at h';exact h')
     refine KS.set (F:=fun x=>K x≤101) hkk (g:=q) ?_ 0 _
     by_cases hqs:q < w.heap.size
     ·refine .inl ?_
      have:=Q7.out
      rw[y1 q hqs] at this
      show K q≤101
      omega
     ·exact .inr (by omega)
   ·obtain⟨i,hli,hip,-⟩:=(HD.out rfl).resolve_left hto
    have hd1:(lt == c.nodes)=false:=by simp[hto]
    have hr:=hr0.trans (if_neg hto)
    subst hli
    clear hr0 HD hto
    have HRR:=AS hr
    clear hr
    go_wp2_with fail
    go_quiet (fail)
    go_upto_region 2 with fail
    have LY:=AS (blk_drewN LX.out nq)
    have EY:=AS (blk_drewN EX.out nq)
    have WY:=AS (WX.out.keep (K':=K2) (w':=wc.drewN nq) (KS.below (fun _=>False) (bdN wc nq)) (fun x _ _=>⟨rfl,id⟩))
    have KY:=AS (show(∀ x,x < w.heap.size->K2 x=K x)/\KS (fun x=>K x≤101) w (wc.drewN nq)/\K2 g7=200/\K2 w.heap.size=200 from⟨KX.out.1,KX.out.2.1.andBelow (bdN wc nq),KX.out.2.2⟩)
    have hlt1:=blk_lt LX.out
    clear f2 f0 LX EX WX KX
    generalize wc.drewN nq=wd at LY EY WY KY ⊢
    have hlg:=blk_lt LY.out
    have hle:=blk_lt EY.out
    obtain⟨g,hgA,hgi⟩:=WY.out.1.ptr hip
    have i0:(0:Int)≤(i:Int):=by omega
    have i1:(i:Int) < (p.ns.length:Int):=by omega
    have hgK:K2 g=1:=WY.out.1.2.2.2.1 g (by unfold WPt.v;rw[hgA];simp[foot_slice])
    have HGK:=AS hgK
    have HGA:=AS hgA
    have GI:=AS hgi
    have HIP:=AS hip
    have HN:=AS (show NodeAt c (s.nodes.getD i (S.Node.new i)) (p.ns.getD i 0) (fun x=>K2 x=4+i) wd from WY.out.1.2.2.2.2.2.2.2.2 i hip)
    clear hgK hgA hgi hip
    have IS:=AS (show ∀ X,Below wd.heap.size wd X->Calls Tryz.prog 60 _ X _ from fun X h=>nodeTake_at (HN.out.keep (F':=fun x=>x < wd.heap.size/\K2 x=4+i) (KS.below (fun _=>False) h) (fun x hx hF=>⟨⟨hx,hF⟩,id⟩)) ⟨lk,lf,(i:Int),lb,lq,lw,lwr,⟨lc,lo,lh,ld⟩⟩ ⟨b2,c2,d2⟩)
    have DR:=AS (fun X=>draws_any k a2 b2 c2 d2 X)
    simp only[letV,drwV] at IS DR
    have HLN2:=HLN.out
    rw[HRR.out] at HLN2
    simp only[Int.toNat_natCast] at HLN2
    have HRQ:=AS (show R=({ s with way:=netLeft s.way a2,nodes:=s.nodes.set i ((s.nodes.getD i (S.Node.new i)).take c ⟨lk,lf,(i:Int),lb,lq,lw,lwr,⟨lc,lo,lh,ld⟩⟩ ⟨b2,c2,d2⟩).1 },((s.nodes.getD i (S.Node.new i)).take c ⟨lk,lf,(i:Int),lb,lq,lw,lwr,⟨lc,lo,lh,ld⟩⟩ ⟨b2,c2,d2⟩).2.letters,((s.nodes.getD i (S.Node.new i)).take c ⟨lk,lf,(i:Int),lb,lq,lw,lwr,⟨lc,lo,lh,ld⟩⟩ ⟨b2,c2,d2⟩).2.done) from by have:=HRR.out;simpa only[Int.toNat_natCast] using this)
    clear HRR
    generalize ((s.nodes.getD i (S.Node.new i)).take c ⟨lk,lf,(i:Int),lb,lq,lw,lwr,⟨lc,lo,lh,ld⟩⟩ ⟨b2,c2,d2⟩)=R2 at IS HRQ HLN2
    obtain⟨n',o⟩:=R2
    have HL2:=AS HLN2
    clear HLN2
    generalize hni:p.ns.getD i 0=ni at *
    have HNI:=AS hni
    clear hni
    have KEEP:=AS (show ∀ x,KS (fun y=>y < wd.heap.size/\(K2 y=4+i∨K2 y=101)) wd x->(x.cell? ⟨b,11,none⟩=some (.slice (some ⟨g,0,none⟩) p.ns.length p.cp)/\x.cell? ⟨g,i,none⟩=some (.pointer (some ⟨ni,0,none⟩))/\x.cell? ⟨g7,0,none⟩=some (.int .i64 lk)/\x.cell? ⟨g7,1,none⟩=some (.int .i64 lf)/\x.cell? ⟨g7,2,none⟩=some (.int .i64 (i:Int))/\x.cell? ⟨g7,3,none⟩=some (.int .i64 lb)/\x.cell? ⟨g7,4,none⟩=some (.int .i64 lq)/\x.cell? ⟨g7,5,none⟩=some (.int .i64 lw)/\x.cell? ⟨g7,6,none⟩=some (.bool lwr)/\x.cell? ⟨g7,7,none⟩=some (.int .i64 lc)/\x.cell? ⟨g7,8,none⟩=some (.bool lo)/\x.cell? ⟨g7,9,none⟩=some (.bool lh)/\x.cell? ⟨g7,10,none⟩=some (.int .i64 ld)/\x.cell? ⟨w.heap.size,0,none⟩=some (.int .i64 k)/\x.cell? ⟨w.heap.size,1,none⟩=some (.int .i64 a2)/\x.cell? ⟨w.heap.size,2,none⟩=some (.int .i64 b2)/\x.cell? ⟨w.heap.size,3,none⟩=some (.int .i64 c2)/\x.cell? ⟨w.heap.size,4,none⟩=some (.int .i64 d2)) from fun x hx=>by
     have hne:∀ y,K2 y=200∨K2 y=0∨K2 y=1->¬ (y < wd.heap.size/\(K2 y=4+i∨K2 y=101)):=fun y hy h=>by
      have h64:=WY.out.1.2.2.2.2.2.2.2.1
      have:=HIP.out
      omega
     have hb1:=hx.at_ WY.out.1.1 (hne _ (.inr (.inl WY.out.1.2.1)))
     have hb2:=hx.at_ LY.out (hne _ (.inl KY.out.2.2.1))
     have hb3:=hx.at_ EY.out (hne _ (.inl KY.out.2.2.2))
     have hr:x.cell? ⟨g,i,none⟩=some (.pointer (some ⟨ni,0,none⟩)):=by
      rw[ks_cell hx (World.block_lt_of_cell? wd _ GI.out) (hne _ (.inr (.inr HGK.out)))]
      exact GI.out
     refine⟨(blk_cell hb1 11).trans ?_,hr,cw hb2 0,cw hb2 1,cw hb2 2,cw hb2 3,cw hb2 4,cw hb2 5,cw hb2 6,cw hb2 7,cw hb2 8,cw hb2 9,cw hb2 10,cw hb3 0,cw hb3 1,cw hb3 2,cw hb3 3,cw hb3 4⟩
     unfold wldC;rw[HGA.out];rfl)
    obtain⟨e0_,e1_,e2_,e3_,e4_,e5_,e6_,e7_,e8_,e9_,e10_,e11_,e12_,e13_,e14_,e15_,e16_,e17_⟩:=KEEP.out wd (KS.refl _ _)
    go_region_held3 (fun x=>x.cell? ⟨b,11,none⟩=some (.slice (some ⟨g,0,none⟩) p.ns.length p.cp)/\x.cell? ⟨g,i,none⟩=some (.pointer (some ⟨ni,0,none⟩))/\x.cell? ⟨g7,0,none⟩=some (.int .i64 lk)/\x.cell? ⟨g7,1,none⟩=some (.int .i64 lf)/\x.cell? ⟨g7,2,none⟩=some (.int .i64 (i:Int))/\x.cell? ⟨g7,3,none⟩=some (.int .i64 lb)/\x.cell? ⟨g7,4,none⟩=some (.int .i64 lq)/\x.cell? ⟨g7,5,none⟩=some (.int .i64 lw)/\x.cell? ⟨g7,6,none⟩=some (.bool lwr)/\x.cell? ⟨g7,7,none⟩=some (.int .i64 lc)/\x.cell? ⟨g7,8,none⟩=some (.bool lo)/\x.cell? ⟨g7,9,none⟩=some (.bool lh)/\x.cell? ⟨g7,10,none⟩=some (.int .i64 ld)/\x.cell? ⟨w.heap.size,0,none⟩=some (.int .i64 k)/\x.cell? ⟨w.heap.size,1,none⟩=some (.int .i64 a2)/\x.cell? ⟨w.heap.size,2,none⟩=some (.int .i64 b2)/\x.cell? ⟨w.heap.size,3,none⟩=some (.int .i64 c2)/\x.cell? ⟨w.heap.size,4,none⟩=some (.int .i64 d2)) ((refine KEEP.out _ ?_;(repeat (with_reducible first | exact N3.out | refine KS.trans ?_ H2.out HX2.out | refine KS.andBelow ?_ H1.out | apply KS.alloc | apply KS.drew | exact KS.refl _ _)))) ((first | (go_at_call 59;refine(DR.out _).mono ?_;rintro e w1 ⟨rfl,hb⟩;have H1:=AS hb;clear hb) | (go_at_call 60;refine(IS.out _ ?_).mono ?_;(focus ((repeat (with_reducible first | refine bchain H1.out ?_ | apply below_alloc | apply Below.drew | exact Below.refl _ _))));rintro e w2 ⟨A1,cc1,A2,cc2,G,rfl,hN,hG,ho1,ho2,hf1,hf2,hk⟩;have HX2:=AS (show ∀ x,x < wd.heap.size->(x < wd.heap.size/\K2 x=4+i)->(x < wd.heap.size/\(K2 x=4+i∨K2 x=101)) from fun x _ h=>⟨h.1,.inl h.2⟩);have hbX:Below wd.heap.size wd w1:=(Below.drew (Below.refl _ _)).trans H1.out;rw[<- HNI.out] at hN;have hcl:=WY.out.called (v1:=.slice A1 o.letters.length cc1) (v2:=.slice A2 o.done.length cc2) hbX HIP.out hN hG hf1 hf2 hk;have HC:=AS hcl;clear hcl;have AD:=AS (show ∃ K3,((∀ x,x < wd.heap.size->K3 x=K2 x)/\KS (fun x=>K2 x≤101) wd w2/\WldK c _ b p K3 w2)/\Calls Tryz.prog 56 _ w2 _ from(by obtain⟨K3,k1,-,k3,k4,k5,k6⟩:=HC.out;exact⟨K3,⟨k1,k6,k3.1⟩,add_any k3.2 ho1 ho2 (fun x hx=>by rw[k5 x hx];decide) (by have h:o.letters.length≤1000:=HL2.out.1;simp only[List.length_nil];omega) (by have h:o.done.length≤1000:=HL2.out.2;simp only[List.length_nil];omega)⟩));have H2:=AS hk;clear hN hG ho1 ho2 hf1 hf2 hk hbX) | (go_at_call 56;have hAD:=AD.out;obtain⟨K3,k1,hC⟩:=hAD;refine hC.mono ?_;rintro e w3 ⟨rfl,h3,hk3⟩;have X3:=AS h3;have F2:=AS k1;have HK3:=AS hk3;have N3:=AS (show KS (fun y=>y < wd.heap.size/\(K2 y=4+i∨K2 y=101)) wd w3 from(KS.trans (KS.below _ ((Below.drew (Below.refl _ _)).trans H1.out)) H2.out HX2.out).trans hk3 (fun x hx h=>⟨hx,.inr (by have h':K3 x=101:=h;rw[k1.1 x hx] at h';exact h')⟩));clear h3 k1 hC hk3)))
    all_goals
     clear e0_ e1_ e2_ e3_ e4_ e5_ e6_ e7_ e8_ e9_ e10_ e11_ e12_ e13_ e14_ e15_ e16_ e17_
     go_wp2
     go_ret
     obtain⟨k1,k2,kW⟩:=F2.out
     obtain⟨y1,y2,-⟩:=KY.out
     have hs:=y2.size
     have hs2:=k2.size
     rw[HRQ.out]
     have a2:=X3.out
     simp only[List.nil_append] at a2
     refine⟨rfl,rec_ K3 w2 101,fun x hx=>(rec_old (by omega)).trans ((k1 x (by omega)).trans (y1 x hx)),⟨kW.keep HK3.out (fun x hx h=>⟨rec_old hx,by show ¬ K3 x=101;omega⟩),a2⟩,(y2.trans k2 (fun x hx h=>by have h':K2 x≤101:=h;rw[y1 x hx] at h';exact h')).trans HK3.out (fun x hx h=>by have h':K3 x=101:=h;rw[k1 x (by omega),y1 x hx] at h';show K x≤101;omega)⟩
end Go.Proofs.YtiebppkhaiofeaaGreat.K
