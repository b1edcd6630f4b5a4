/- Part of the proof of TopStarver: what functions of the program do. -/
import Derived.Test.YtiebppkhaiofeaaGreatS34
set_option maxHeartbeats 4000000
set_option maxRecDepth 100000
set_option linter.unusedVariables false
set_option linter.unusedSimpArgs false
namespace Go.Proofs.YtiebppkhaiofeaaGreat.K
open Go.RowKit Go.Proofs.YtiebppkhaiofeaaGreatW.PrintWords Go.Proofs.YtiebppkhaiofeaaGreat.S
attribute [local go_sem] World.cell?_alloc_some
open Go.ChangeMaps Go.MapKept
section
variable {c:Cfg} {s s':S.World} {b q:Nat} {p:WPt} {K K':Nat->Nat} {w w' w1 X:Go.World} {G:Set_} {ls:List Let} {ds:List S.Done} {vl vd:Value}
theorem WA.called {i:Nat} {n':S.Node} {v1 v2:Value} (h:WA c s b p ls ds q K w) (hb:Below w.heap.size w X) (hi:i < p.ns.length) (hN:NodeAt c n' (p.ns.getD i 0) G w') (hG:∀ x,x < X.heap.size->G x->(x < w.heap.size/\K x=4+i)) (hf1:∀ x∈foot v1,X.heap.size≤x/\¬ G x) (hf2:∀ x∈foot v2,X.heap.size≤x/\¬ G x)
  (hk:KS (fun x=>x < w.heap.size/\K x=4+i) X w'):∃ K2,(∀ x,x < w.heap.size->K2 x=K x)/\(∀ x,w.heap.size≤x->x < X.heap.size->K2 x=200)/\WA c { s with nodes:=s.nodes.set i n' } b p ls ds q K2 w'/\(∀ x∈foot v1,K2 x=200)/\(∀ x∈foot v2,K2 x=200)/\KS (fun x=>K x≤101) w w':=by
 have hs:=hb.size
 have h64:=h.1.2.2.2.2.2.2.2.1
 have h1:=h.below hb
 have hG':∀ x,x < X.heap.size->G x->rec_ K w 200 x=4+i:=fun x hx hg=>by
  have:=hG x hx hg
  rw[rec_old this.1];exact this.2
 have hk':KS (fun x=>rec_ K w 200 x=4+i) X w':=hk.mono (fun x _ hx=>by show rec_ K w 200 x=_;rw[rec_old hx.1];exact hx.2)
 have h2:=h1.node hi hN hG' hk'
 refine⟨recG (rec_ K w 200) X G (4+i),fun x hx=>(recG_old (by omega)).trans (rec_old hx),fun x hx hx2=>(recG_old hx2).trans (rec_new hx),h2,fun x hx=>recG_out (hf1 x hx).1 (hf1 x hx).2,fun x hx=>recG_out (hf2 x hx).1 (hf2 x hx).2,(KS.below _ hb).trans hk (fun x _ hx=>by show K x≤101;have:=hx.2;omega)⟩
theorem WA.boxed {g:Nat} (h:WA c s b p ls ds q K w) (hk:KS (fun y=>y=g) w w') (hg:g < w.heap.size->K g=200):WA c s b p ls ds q (rec_ K w 200) w' :=
 h.keep hk (fun x hx h5=>⟨rec_old hx,fun e=>by have e':x=g:=e;rw[e'] at hx h5;have:=hg hx;omega⟩)
end
theorem ks_cell {W x:Go.World} {F:Set_} {g i:Nat} (hk:KS F W x) (hg:g < W.heap.size) (hF:¬ F g):x.cell? ⟨g,i,none⟩=W.cell? ⟨g,i,none⟩:=by
 unfold World.cell?
 rw[hk.2.2.2.2 g hg hF]
theorem bchain {A X F:Go.World} (hl:Below X.heap.size X F) (h:Below A.heap.size A X):Below A.heap.size A F:=h.trans (hl.mono h.size)
theorem kchain {A X F:Go.World} {G:Set_} (hl:KS G X F) (h:KS G A X):KS G A F:=h.trans hl (fun _ _ h=>h)
theorem zblkB {Y F:Go.World} (hl:Below (Y.alloc (.cells #[.slice none 0 0,.slice none 0 0] 138)).drew.heap.size (Y.alloc (.cells #[.slice none 0 0,.slice none 0 0] 138)).drew F):F.heap[Y.heap.size]?=some (.cells #[.slice none 0 0,.slice none 0 0] 138 (0,0)):=blk_below (blk_drew (blk_new Y _)) hl
theorem worldIssue_aux {c:Cfg} {s:S.World} {b q:Nat} {p:WPt} {K:Nat->Nat} {w:Go.World} (hW:WA c s b p [] [] q K w) (k b2 c2 d2:Int) (i:Nat) (hi:i < p.ns.length) (n:S.Node) (hn:n=s.nodes.getD i (S.Node.new i)) (hlen:(n.issue c (Ent.op ⟨k,(i:Int),b2,c2,d2⟩) ⟨0,0,0⟩).2.1.letters.length≤1000/\(n.issue c (Ent.op ⟨k,(i:Int),b2,c2,d2⟩) ⟨0,0,0⟩).2.1.done.length≤1000) :
  Calls Tryz.prog 28 #[.pointer (some ⟨b,0,none⟩),.agg #[.int .i64 k,.int .i64 (i:Int),.int .i64 b2,.int .i64 c2,.int .i64 d2],.pointer (some ⟨q,0,none⟩)] w (WP (.bool (n.issue c (Ent.op ⟨k,(i:Int),b2,c2,d2⟩) ⟨0,0,0⟩).2.2) c { s with nodes:=s.nodes.set i (n.issue c (Ent.op ⟨k,(i:Int),b2,c2,d2⟩) ⟨0,0,0⟩).1 } b p (n.issue c (Ent.op ⟨k,(i:Int),b2,c2,d2⟩) ⟨0,0,0⟩).2.1.letters (n.issue c (Ent.op ⟨k,(i:Int),b2,c2,d2⟩) ⟨0,0,0⟩).2.1.done q K w):=by
 have HW:=AS hW
 obtain⟨g,hg,hgi⟩:=hW.1.ptr hi
 have hgK:K g=1:=hW.1.2.2.2.1 g (by unfold WPt.v;rw[hg];simp[foot_slice])
 have HN:=AS (show NodeAt c n (p.ns.getD i 0) (fun x=>K x=4+i) w from hn ▸ hW.1.2.2.2.2.2.2.2.2 i hi)
 have e11:=hW.1.cells.2.2.2.2.2.2.2.2.2.2.2.1
 have hbl:=blk_lt hW.1.1
 have HB0:=AS hW.1.2.1
 have HGK:=AS hgK
 have HLN:=AS hlen
 rw[hg] at e11
 have E11:=AS e11
 have GI:=AS hgi
 clear hW hgK hn hlen
 have i0:(0:Int)≤(i:Int):=by omega
 have i1:(i:Int) < (p.ns.length:Int):=by omega
 generalize hR:(n.issue c (Ent.op ⟨k,(i:Int),b2,c2,d2⟩) ⟨0,0,0⟩)=R at *
 obtain⟨n',o,ok⟩:=R
 have IS:=AS (show ∀ W X,Below w.heap.size w W->Below W.heap.size W X->Calls Tryz.prog 54 _ X _ from fun W X h1 h2=>nodeIssue_at (HN.out.keep (F':=fun x=>x < w.heap.size/\K x=4+i) (KS.below (fun _=>False) (h1.trans (h2.mono h1.size))) (fun x hx hF=>⟨⟨hx,hF⟩,id⟩)) (Ent.op ⟨k,(i:Int),b2,c2,d2⟩) ⟨0,0,0⟩)
 have OPA:=AS (fun X=>op_any k (i:Int) b2 c2 d2 X)
 rw[hR] at IS
 generalize Ent.op ⟨k,(i:Int),b2,c2,d2⟩=op at OPA IS hR
 obtain⟨ob,ow,ov⟩:=op
 clear hR
 generalize hni:p.ns.getD i 0=ni at *
 have HNI:=AS hni
 clear hni
 simp only[opV,drwV] at IS OPA
 have BX:=AS (blk_new w (.cells #[.int .i64 k,.int .i64 (i:Int),.int .i64 b2,.int .i64 c2,.int .i64 d2] 33))
 have BE:=AS (below_alloc (Below.refl w.heap.size w) (.cells #[.int .i64 k,.int .i64 (i:Int),.int .i64 b2,.int .i64 c2,.int .i64 d2] 33))
 have SZ:=AS (sz_alloc w (.cells #[.int .i64 k,.int .i64 (i:Int),.int .i64 b2,.int .i64 c2,.int .i64 d2] 33))
 go_enter Tryz.func28,Tryz.ntmps28
 go_upto_region 1 with fail
 generalize w.alloc (.cells #[.int .i64 k,.int .i64 (i:Int),.int .i64 b2,.int .i64 c2,.int .i64 d2] 33)=W at BX BE SZ ⊢
 have IS:=AS (fun X h=>IS.out W X BE.out h)
 have KEEP:=AS (show ∀ x,KS (fun y=>y < w.heap.size/\K y=4+i) W x->(x.cell? ⟨b,11,none⟩=some (.slice (some ⟨g,0,none⟩) p.ns.length p.cp)/\x.cell? ⟨g,i,none⟩=some (.pointer (some ⟨ni,0,none⟩))/\x.cell? ⟨w.heap.size,0,none⟩=some (.int .i64 k)/\x.cell? ⟨w.heap.size,1,none⟩=some (.int .i64 (i:Int))/\x.cell? ⟨w.heap.size,2,none⟩=some (.int .i64 b2)/\x.cell? ⟨w.heap.size,3,none⟩=some (.int .i64 c2)/\x.cell? ⟨w.heap.size,4,none⟩=some (.int .i64 d2)) from fun x hx=>by
  have hb1:=hx.at_ (blk_below HW.out.1.1 BE.out) (fun h=>by have h2:=h.2;rw[HB0.out] at h2;omega)
  have hb2:=hx.at_ BX.out (fun h=>by have h2:=h.1;omega)
  have hr:x.cell? ⟨g,i,none⟩=some (.pointer (some ⟨ni,0,none⟩)):=by
   rw[ks_cell hx (by have h1:g < w.heap.size:=World.block_lt_of_cell? w _ GI.out;have:=BE.out.size;omega) (fun h=>by have h2:=h.2;rw[HGK.out] at h2;omega),(bcell BE.out).1 g i (World.block_lt_of_cell? w _ GI.out)]
   exact GI.out
  refine⟨(blk_cell hb1 11).trans ?_,hr,cw hb2 0,cw hb2 1,cw hb2 2,cw hb2 3,cw hb2 4⟩
  unfold wldC;rw[hg];rfl)
 have ZF:=AS (show ∀ (x:Go.World) (g:Nat),x.heap[g]?=some (.cells #[.slice none 0 0,.slice none 0 0] 138 (0,0))->(x.cell? ⟨g,0,none⟩=some (.slice none 0 0)/\x.cell? ⟨g,1,none⟩=some (.slice none 0 0)/\x.frozen? ⟨g,0,none⟩=false/\x.frozen? ⟨g,1,none⟩=false) from fun x g h=>⟨cw h 0,cw h 1,blk_frozen h 0,blk_frozen h 1⟩)
 obtain⟨e0_,e1_,e2_,e3_,e4_,e5_,e6_⟩:=KEEP.out W (KS.refl _ _)
 clear e11 hgi
 go_cut [7,8] (fun v7 v8 wx=>∃ g7 A1 cc1 A2 cc2 K2,v7=.pointer (some ⟨g7,0,none⟩)/\v8=.bool ok/\wx.heap[g7]?=some (.cells #[.slice A1 o.letters.length cc1,.slice A2 o.done.length cc2] 138 (0,0))/\(∀ x,x < w.heap.size->K2 x=K x)/\WA c { s with nodes:=s.nodes.set i n' } b p [] [] q K2 wx/\OwnE letE (.slice A1 o.letters.length cc1) o.letters wx/\OwnE doneE (.slice A2 o.done.length cc2) o.done wx/\(∀ x∈foot (.slice A2 o.done.length cc2),K2 x≠101)/\KS (fun x=>K x≤101) w wx)
 case first =>
  go_region_held3 (fun x=>x.cell? ⟨b,11,none⟩=some (.slice (some ⟨g,0,none⟩) p.ns.length p.cp)/\x.cell? ⟨g,i,none⟩=some (.pointer (some ⟨ni,0,none⟩))/\x.cell? ⟨w.heap.size,0,none⟩=some (.int .i64 k)/\x.cell? ⟨w.heap.size,1,none⟩=some (.int .i64 (i:Int))/\x.cell? ⟨w.heap.size,2,none⟩=some (.int .i64 b2)/\x.cell? ⟨w.heap.size,3,none⟩=some (.int .i64 c2)/\x.cell? ⟨w.heap.size,4,none⟩=some (.int .i64 d2)) ((refine KEEP.out _ ?_;(repeat (first | with_reducible exact KS.refl _ _ | with_reducible apply KS.alloc | with_reducible apply KS.drew | with_reducible refine kchain H2.out ?_ | with_reducible refine KS.andBelow ?_ H1.out | (with_reducible refine KS.set ?_ (.inr ?_) _ _;rotate_left;(focus (first | (have z1:=H1.out.size;simp only[sz_alloc,sz_drew] at z1 ⊢;omega) | (simp only[sz_alloc,sz_drew];omega)))))))) ((first | (go_at_call 55;refine(OPA.out _).mono ?_;rintro e w1 ⟨rfl,hb⟩;have H1:=AS hb;clear hb;have hsz:=H1.out.size;(first | rw[sz_alloc] at hsz | rw[sz_drew,sz_alloc] at hsz);clear hsz;have QF:Aside0 (w1.heap[W.heap.size]?=some (.cells #[.slice none 0 0,.slice none 0 0] 138 (0,0))):=AS (zblkB (Y:=W) H1.out);obtain⟨q10_,q11_,q12_,q13_⟩:=ZF.out _ _ QF.out) | (go_at_call 55;refine(OPA.out _).mono ?_;rintro e w1 ⟨rfl,hb⟩;have H1:=AS hb;clear hb) | (go_at_call 54;refine(IS.out _ ?_).mono ?_;(focus ((repeat (with_reducible first | exact Below.refl _ _ | apply below_alloc | apply Below.drew | refine bchain H1.out ?_))));rintro e w2 ⟨A1,cc1,A2,cc2,G,rfl,hN,hG,ho1,ho2,hf1,hf2,hk⟩;have hX:=hk.size;have H2:=AS hk;have F2:=AS (And.intro hN (And.intro hG (And.intro ho1 (And.intro ho2 (And.intro hf1 hf2)))));clear hN hG ho1 ho2 hf1 hf2 hk;clear hX;have QF:Aside0 (w2.heap[W.heap.size]?=some (.cells #[.slice none 0 0,.slice none 0 0] 138 (0,0))):=AS (H2.out.at_ QF.out (fun hx=>by have h0:=hx.1;have z0:=SZ.out;have z1:=H1.out.size;simp only[sz_alloc,sz_drew] at z1 h0;omega));obtain⟨q20_,q21_,q22_,q23_⟩:=ZF.out _ _ QF.out) | (go_at_call 54;refine(IS.out _ ?_).mono ?_;(focus ((repeat (with_reducible first | exact Below.refl _ _ | apply below_alloc | apply Below.drew | refine bchain H1.out ?_))));rintro e w2 ⟨A1,cc1,A2,cc2,G,rfl,hN,hG,ho1,ho2,hf1,hf2,hk⟩;have hX:=hk.size;have H2:=AS hk;have F2:=AS (And.intro hN (And.intro hG (And.intro ho1 (And.intro ho2 (And.intro hf1 hf2)))));clear hN hG ho1 ho2 hf1 hf2 hk;(first | rw[sz_alloc] at hX | rw[sz_drew,sz_alloc] at hX);clear hX;have QF:Aside0 (w2.heap[w1.heap.size]?=some (.cells #[.slice none 0 0,.slice none 0 0] 138 (0,0))):=AS (H2.out.at_ (blk_new w1 (.cells #[.slice none 0 0,.slice none 0 0] 138)) (fun hx=>by have h0:=hx.1;have z0:=SZ.out;have z1:=H1.out.size;simp only[sz_alloc,sz_drew] at z1 h0;omega));obtain⟨q20_,q21_,q22_,q23_⟩:=ZF.out _ _ QF.out) | (go_at_call 54;refine(IS.out _ ?_).mono ?_;(focus ((repeat (with_reducible first | exact Below.refl _ _ | apply below_alloc | apply Below.drew | refine bchain H1.out ?_))));rintro e w2 ⟨A1,cc1,A2,cc2,G,rfl,hN,hG,ho1,ho2,hf1,hf2,hk⟩;have hX:=hk.size;have H2:=AS hk;have F2:=AS (And.intro hN (And.intro hG (And.intro ho1 (And.intro ho2 (And.intro hf1 hf2)))));clear hN hG ho1 ho2 hf1 hf2 hk;clear hX)))
  ·go_wp2_with fail
   go_meet
   have s0:=SZ.out
   have s1:=H1.out.size
   have s2:=H2.out.size
   simp only[sz_alloc,sz_drew,sz_set] at s1 s2
   obtain⟨hN,hG,ho1,ho2,hf1,hf2⟩:=F2.out
   have hlt1:=ho1.lt
   have hlt2:=ho2.lt
   rw[<- HNI.out] at hN
   obtain⟨K2,k1,k2,k3,k4,k5,k6⟩:=HW.out.called (v1:=.slice A1 o.letters.length cc1) (v2:=.slice A2 o.done.length cc2) (BE.out.trans (Below.mono (B:=W.heap.size) (by (repeat (with_reducible first | exact Below.refl _ _ | apply below_alloc | apply Below.drew | refine bchain H1.out ?_))) (by omega))) hi hN hG hf1 hf2 H2.out
   refine⟨w2.heap.size,A1,cc1,A2,cc2,rec_ K2 w2 200,rfl,rfl,?_,fun x hx=>(rec_old (by omega)).trans (k1 x hx),k3.boxed (g:=w2.heap.size) ?_ (fun hx=>k2 _ (by omega) (by (try simp only[sz_alloc,sz_drew]);omega)),ho1.ks (G:=fun y=>y=w2.heap.size) ?_ (fun x hx e=>?_),ho2.ks (G:=fun y=>y=w2.heap.size) ?_ (fun x hx e=>?_),fun x hx=>?_,k6.trans (G:=fun y=>y=w2.heap.size) ?_ (fun x hx e=>?_)⟩
   ·apply blk_as
    ·(repeat (with_reducible first | exact QF.out | apply blk_set | apply blk_new))
    ·simp
   ·(repeat (with_reducible first | exact KS.refl _ _ | refine KS.set1 ?_ _ _ | apply KS.alloc | apply KS.drew))
   ·(repeat (with_reducible first | exact KS.refl _ _ | refine KS.set1 ?_ _ _ | apply KS.alloc | apply KS.drew))
   ·have h1:=hlt1 x hx
    have h2:=(hf1 x hx).1
    have e':x=w2.heap.size:=e
    (try simp only[sz_alloc,sz_drew,sz_set] at h1 h2)
    omega
   ·(repeat (with_reducible first | exact KS.refl _ _ | refine KS.set1 ?_ _ _ | apply KS.alloc | apply KS.drew))
   ·have h1:=hlt2 x hx
    have h2:=(hf2 x hx).1
    have e':x=w2.heap.size:=e
    (try simp only[sz_alloc,sz_drew,sz_set] at h1 h2)
    omega
   ·rw[rec_old (hlt2 x hx),k5 x hx];decide
   ·(repeat (with_reducible first | exact KS.refl _ _ | refine KS.set1 ?_ _ _ | apply KS.alloc | apply KS.drew))
   ·have e':x=w2.heap.size:=e
    omega
  ·go_wp2_with fail
   go_meet
   have s0:=SZ.out
   have s1:=H1.out.size
   have s2:=H2.out.size
   simp only[sz_alloc,sz_drew,sz_set] at s1 s2
   obtain⟨hN,hG,ho1,ho2,hf1,hf2⟩:=F2.out
   have hlt1:=ho1.lt
   have hlt2:=ho2.lt
   rw[<- HNI.out] at hN
   obtain⟨K2,k1,k2,k3,k4,k5,k6⟩:=HW.out.called (v1:=.slice A1 o.letters.length cc1) (v2:=.slice A2 o.done.length cc2) (BE.out.trans (Below.mono (B:=W.heap.size) (by (repeat (with_reducible first | exact Below.refl _ _ | apply below_alloc | apply Below.drew | refine bchain H1.out ?_))) (by omega))) hi hN hG hf1 hf2 H2.out
   refine⟨w1.heap.size,A1,cc1,A2,cc2,rec_ K2 w2 200,rfl,rfl,?_,fun x hx=>(rec_old (by omega)).trans (k1 x hx),k3.boxed (g:=w1.heap.size) ?_ (fun hx=>k2 _ (by omega) (by (try simp only[sz_alloc,sz_drew]);omega)),ho1.ks (G:=fun y=>y=w1.heap.size) ?_ (fun x hx e=>?_),ho2.ks (G:=fun y=>y=w1.heap.size) ?_ (fun x hx e=>?_),fun x hx=>?_,k6.trans (G:=fun y=>y=w1.heap.size) ?_ (fun x hx e=>?_)⟩
   ·apply blk_as
    ·(repeat (with_reducible first | exact QF.out | apply blk_set | apply blk_new))
    ·simp
   ·(repeat (with_reducible first | exact KS.refl _ _ | refine KS.set1 ?_ _ _ | apply KS.alloc | apply KS.drew))
   ·(repeat (with_reducible first | exact KS.refl _ _ | refine KS.set1 ?_ _ _ | apply KS.alloc | apply KS.drew))
   ·have h1:=hlt1 x hx
    have h2:=(hf1 x hx).1
    have e':x=w1.heap.size:=e
    (try simp only[sz_alloc,sz_drew,sz_set] at h1 h2)
    omega
   ·(repeat (with_reducible first | exact KS.refl _ _ | refine KS.set1 ?_ _ _ | apply KS.alloc | apply KS.drew))
   ·have h1:=hlt2 x hx
    have h2:=(hf2 x hx).1
    have e':x=w1.heap.size:=e
    (try simp only[sz_alloc,sz_drew,sz_set] at h1 h2)
    omega
   ·rw[rec_old (hlt2 x hx),k5 x hx];decide
   ·(repeat (with_reducible first | exact KS.refl _ _ | refine KS.set1 ?_ _ _ | apply KS.alloc | apply KS.drew))
   ·have e':x=w1.heap.size:=e
    omega
  ·go_wp2_with fail
   go_meet
   have s0:=SZ.out
   have s1:=H1.out.size
   have s2:=H2.out.size
   simp only[sz_alloc,sz_drew,sz_set] at s1 s2
   obtain⟨hN,hG,ho1,ho2,hf1,hf2⟩:=F2.out
   have hlt1:=ho1.lt
   have hlt2:=ho2.lt
   rw[<- HNI.out] at hN
   obtain⟨K2,k1,k2,k3,k4,k5,k6⟩:=HW.out.called (v1:=.slice A1 o.letters.length cc1) (v2:=.slice A2 o.done.length cc2) (BE.out.trans (Below.mono (B:=W.heap.size) (by (repeat (with_reducible first | exact Below.refl _ _ | apply below_alloc | apply Below.drew | refine bchain H1.out ?_))) (by omega))) hi hN hG hf1 hf2 H2.out
   refine⟨W.heap.size,A1,cc1,A2,cc2,rec_ K2 w2 200,rfl,rfl,?_,fun x hx=>(rec_old (by omega)).trans (k1 x hx),k3.boxed (g:=W.heap.size) ?_ (fun hx=>k2 _ (by omega) (by (try simp only[sz_alloc,sz_drew]);omega)),ho1.ks (G:=fun y=>y=W.heap.size) ?_ (fun x hx e=>?_),ho2.ks (G:=fun y=>y=W.heap.size) ?_ (fun x hx e=>?_),fun x hx=>?_,k6.trans (G:=fun y=>y=W.heap.size) ?_ (fun x hx e=>?_)⟩
   ·apply blk_as
    ·(repeat (with_reducible first | exact QF.out | apply blk_set | apply blk_new))
    ·simp
   ·(repeat (with_reducible first | exact KS.refl _ _ | refine KS.set1 ?_ _ _ | apply KS.alloc | apply KS.drew))
   ·(repeat (with_reducible first | exact KS.refl _ _ | refine KS.set1 ?_ _ _ | apply KS.alloc | apply KS.drew))
   ·have h1:=hlt1 x hx
    have h2:=(hf1 x hx).1
    have e':x=W.heap.size:=e
    (try simp only[sz_alloc,sz_drew,sz_set] at h1 h2)
    omega
   ·(repeat (with_reducible first | exact KS.refl _ _ | refine KS.set1 ?_ _ _ | apply KS.alloc | apply KS.drew))
   ·have h1:=hlt2 x hx
    have h2:=(hf2 x hx).1
    have e':x=W.heap.size:=e
    (try simp only[sz_alloc,sz_drew,sz_set] at h1 h2)
    omega
   ·rw[rec_old (hlt2 x hx),k5 x hx];decide
   ·(repeat (with_reducible first | exact KS.refl _ _ | refine KS.set1 ?_ _ _ | apply KS.alloc | apply KS.drew))
   ·have e':x=W.heap.size:=e
    omega
 case rest =>
  obtain⟨g7,A1,cc1,A2,cc2,K2,rfl,rfl,hq7,hK2,hWA,hO1,hO2,hfo,hks⟩:=hcut
  have c0:=cw hq7 0 (v:=.slice A1 o.letters.length cc1)
  have c1:=cw hq7 1 (v:=.slice A2 o.done.length cc2)
  have AD:=AS (hWA.add hO1 hO2 hfo (by have h:o.letters.length≤1000:=HLN.out.1;simp only[List.length_nil];omega) (by have h:o.done.length≤1000:=HLN.out.2;simp only[List.length_nil];omega))
  have X2:=AS (And.intro hK2 hks)
  clear hq7 hK2 hWA hO1 hO2 hfo hks e0_ e1_ e2_ e3_ e4_ e5_ e6_
  go_wp2_with fail
  refine AD.out.mono ?_
  rintro e w3 ⟨rfl,h3⟩
  have X3:=AS h3
  clear h3
  go_wp2
  go_ret
  obtain⟨K3,a1,a2,a3⟩:=X3.out
  have hs:=X2.out.2.size
  simp only[List.nil_append] at a2
  exact⟨rfl,K3,fun x hx=>(a1 x (by omega)).trans (X2.out.1 x hx),a2,X2.out.2.trans a3 (fun x hx h=>by have h':K2 x≤101:=h;rw[X2.out.1 x hx] at h';exact h')⟩
def tkN (c:Cfg) (d:Drw) (ns:List S.Node) (i:Nat):List S.Node:=(ns.take i).map (fun(n:S.Node)=>(n.tick c d).1) ++ ns.drop i
def tkL (c:Cfg) (d:Drw) (ns:List S.Node) (i:Nat):List Let:=((ns.take i).map fun(n:S.Node)=>n.tick c d).flatMap (·.2.letters)
def tkD (c:Cfg) (d:Drw) (ns:List S.Node) (i:Nat):List S.Done:=((ns.take i).map fun(n:S.Node)=>n.tick c d).flatMap (·.2.done)
section
variable {c:Cfg} {d:Drw} {ns:List S.Node} {i:Nat} (x:S.Node)
theorem getD_at (h:i < ns.length):ns.getD i x=ns[i]:=by rw[List.getD_eq_getElem?_getD,List.getElem?_eq_getElem h];rfl
theorem take_one (h:i < ns.length):ns.take (i+1)=ns.take i ++ [ns.getD i x]:=by rw[List.take_add_one,List.getElem?_eq_getElem h,getD_at x h];rfl
theorem tkN_pre (h:i < ns.length):((ns.take i).map (fun(n:S.Node)=>(n.tick c d).1)).length=i:=by rw[List.length_map,List.length_take];omega
theorem tkN_get (h:i < ns.length):(tkN c d ns i).getD i x=ns.getD i x:=by
 unfold tkN
 rw[List.getD_eq_getElem?_getD,List.getElem?_append_right (by rw[tkN_pre h];exact Nat.le_refl _),tkN_pre h,Nat.sub_self,List.getElem?_drop,List.getD_eq_getElem?_getD]
 rfl
theorem tkN_set (h:i < ns.length):(tkN c d ns i).set i ((ns.getD i x).tick c d).1=tkN c d ns (i+1):=by
 unfold tkN
 rw[List.set_append_right _ _ (by rw[tkN_pre h];exact Nat.le_refl _),tkN_pre h,Nat.sub_self,List.drop_eq_getElem_cons h,List.set_cons_zero,take_one x h,List.map_append,List.append_assoc,List.map_cons,List.map_nil]
 rfl
theorem tkL_succ (h:i < ns.length):tkL c d ns (i+1)=tkL c d ns i ++ ((ns.getD i x).tick c d).2.letters:=by
 unfold tkL
 rw[take_one x h,List.map_append,List.flatMap_append,List.map_cons,List.map_nil,List.flatMap_cons,List.flatMap_nil,List.append_nil]
theorem tkD_succ (h:i < ns.length):tkD c d ns (i+1)=tkD c d ns i ++ ((ns.getD i x).tick c d).2.done:=by
 unfold tkD
 rw[take_one x h,List.map_append,List.flatMap_append,List.map_cons,List.map_nil,List.flatMap_cons,List.flatMap_nil,List.append_nil]
theorem tk_len (hb:∀ n∈ns,(n.tick c d).2.letters.length≤1000/\(n.tick c d).2.done.length≤1000):∀ i,i≤ns.length->(tkL c d ns i).length≤1000 * i/\(tkD c d ns i).length≤1000 * i
 | 0,_=>by simp[tkL,tkD]
 | i+1,h=>by
  have ih:=tk_len hb i (by omega)
  have hm:=hb _ (getD_mem (S.Node.new 0) (show i < ns.length by omega))
  rw[tkL_succ (S.Node.new 0) (show i < ns.length by omega),tkD_succ (S.Node.new 0) (show i < ns.length by omega),List.length_append,List.length_append]
  omega
end
theorem WP.box {v:Value} {c:Cfg} {s:S.World} {b:Nat} {p:WPt} {ls:List Let} {ds:List S.Done} {q:Nat} {K:Nat->Nat} {w w':Go.World} {e:Ending} (h:WP v c s b p ls ds q K w e w') {g:Nat} {o:Obj} (hg:w.heap[g]?=some o) (hK:K g=200):w'.heap[g]?=some o:=by
 obtain⟨-,K',-,-,hk⟩:=h
 exact hk.at_ hg (by show ¬ K g≤101;omega)
theorem worldTick_any {c:Cfg} {s:S.World} {b q:Nat} {p:WPt} {K:Nat->Nat} {w:Go.World} (hW:WA c s b p [] [] q K w) (hw0:0≤c.wait) (hw1:c.wait≤64) (k a2 b2 c2 d2:Int) (hlen:∀ n∈s.nodes,(n.tick c ⟨b2,c2,d2⟩).2.letters.length≤1000/\(n.tick c ⟨b2,c2,d2⟩).2.done.length≤1000) :
  Calls Tryz.prog 34 #[.pointer (some ⟨b,0,none⟩),.agg #[.int .i64 k,.int .i64 a2,.int .i64 b2,.int .i64 c2,.int .i64 d2],.pointer (some ⟨q,0,none⟩)] w (WP (.bool true) c ⟨s.steps,wrap64 (s.ticks+1),s.nodes.map (fun(n:S.Node)=>(n.tick c ⟨b2,c2,d2⟩).1),s.home,s.way⟩ b p ((s.nodes.map fun(n:S.Node)=>n.tick c ⟨b2,c2,d2⟩).flatMap (·.2.letters)) ((s.nodes.map fun(n:S.Node)=>n.tick c ⟨b2,c2,d2⟩).flatMap (·.2.done)) q K w):=by
 have HW:=AS hW
 have hnl:=hW.1.2.2.2.2.2.2.1
 have hn64:=hW.1.2.2.2.2.2.2.2.1
 have hbl:=blk_lt hW.1.1
 have TK:=AS (fun i hi=>tk_len (c:=c) (d:=⟨b2,c2,d2⟩) hlen i hi)
 have HN:=AS (fun n hn=>hlen n hn)
 have BX:=AS (blk_new w (.cells #[.int .i64 k,.int .i64 a2,.int .i64 b2,.int .i64 c2,.int .i64 d2] 33))
 have BE:=AS (below_alloc (Below.refl w.heap.size w) (.cells #[.int .i64 k,.int .i64 a2,.int .i64 b2,.int .i64 c2,.int .i64 d2] 33))
 have SZ:=AS (sz_alloc w (.cells #[.int .i64 k,.int .i64 a2,.int .i64 b2,.int .i64 c2,.int .i64 d2] 33))
 have HWT:=AS (And.intro hw0 hw1)
 clear hW hlen hw0 hw1
 go_enter Tryz.func34,Tryz.ntmps34
 go_upto_region 1 with fail
 generalize w.alloc (.cells #[.int .i64 k,.int .i64 a2,.int .i64 b2,.int .i64 c2,.int .i64 d2] 33)=W at BX BE SZ ⊢
 have HA:=AS (HW.out.below BE.out)
 have e10:=cw HA.out.1.1 10 (v:=.int .i64 s.ticks)
 have z10:=blk_frozen HA.out.1.1 10
 have e11:=cw HA.out.1.1 11 (v:=.slice p.A p.ns.length p.cp)
 go_upto_region 2 with fail
 have R0:=AS (show(∃ K1,(∀ x,x < w.heap.size->K1 x=K x)/\K1 w.heap.size=200/\WA c (⟨s.steps,wrap64 (s.ticks+1),tkN c ⟨b2,c2,d2⟩ s.nodes 0,s.home,s.way⟩:S.World) b p (tkL c ⟨b2,c2,d2⟩ s.nodes 0) (tkD c ⟨b2,c2,d2⟩ s.nodes 0) q K1 (W.setCell ⟨b,10,none⟩ (.int .i64 (wrap64 (s.ticks+1))))/\KS (fun x=>K x≤101) w (W.setCell ⟨b,10,none⟩ (.int .i64 (wrap64 (s.ticks+1))))/\(W.setCell ⟨b,10,none⟩ (.int .i64 (wrap64 (s.ticks+1)))).heap[w.heap.size]?=some (.cells #[.int .i64 k,.int .i64 a2,.int .i64 b2,.int .i64 c2,.int .i64 d2] 33 (0,0))) from by
  have hs:=SZ.out
  have hb0:K b≤101:=by have:=HW.out.1.2.1;omega
  exact⟨rec_ K w 200,fun x hx=>rec_old hx,rec_new (Nat.le_refl _),HA.out.num 10 _ s.steps _ (by simp[wldC]),KS.set (F:=fun x=>K x≤101) (KS.below _ BE.out) (g:=b) (.inl hb0) 10 _,(Below.heap_setCell W ⟨b,10,none⟩ _ w.heap.size (by show w.heap.size≠b;omega)).trans BX.out⟩)
 go_wp2_with fail
 generalize W.setCell ⟨b,10,none⟩ (.int .i64 (wrap64 (s.ticks+1)))=WT at R0 ⊢
 go_loopw [8,21] (fun v8 v21 wr=>∃ i:Nat,v21=.int .i64 i/\i≤p.ns.length/\Aside0 (∃ K1,(∀ x,x < w.heap.size->K1 x=K x)/\K1 w.heap.size=200/\WA c (⟨s.steps,wrap64 (s.ticks+1),tkN c ⟨b2,c2,d2⟩ s.nodes i,s.home,s.way⟩:S.World) b p (tkL c ⟨b2,c2,d2⟩ s.nodes i) (tkD c ⟨b2,c2,d2⟩ s.nodes i) q K1 wr/\KS (fun x=>K x≤101) w wr/\wr.heap[w.heap.size]?=some (.cells #[.int .i64 k,.int .i64 a2,.int .i64 b2,.int .i64 c2,.int .i64 d2] 33 (0,0)))) (fun _ v21 _=>65 - (intOf v21).toNat)
 case atStart=>exact⟨0,rfl,by omega,R0⟩
 case round =>
  obtain⟨i,rfl,hi,R⟩:=hrel
  obtain⟨K1,r1,r2,r3,r4,r5⟩:=R.out
  by_cases hc:i < p.ns.length
  ·have q0:(0:Int)≤(i:Int):=by omega
   have q1:(i:Int) < (p.ns.length:Int):=by omega
   obtain⟨g,hg,hgi⟩:=r3.1.ptr hc
   have HG:=AS hg
   generalize hA:p.A=PA at *
   subst hg
   have f0:=cw r5 0 (v:=.int .i64 k)
   have f1:=cw r5 1 (v:=.int .i64 a2)
   have f2:=cw r5 2 (v:=.int .i64 b2)
   have f3:=cw r5 3 (v:=.int .i64 c2)
   have f4:=cw r5 4 (v:=.int .i64 d2)
   have DR:=AS (draws_any k a2 b2 c2 d2 wr)
   have hii:i < s.nodes.length:=by omega
   have X:=AS (And.intro r1 (And.intro r2 (And.intro r3 (And.intro r4 (And.intro r5 (And.intro hA hii))))))
   have HNi:=AS (show NodeAt c (s.nodes.getD i (S.Node.new i)) (p.ns.getD i 0) (fun x=>K1 x=4+i) wr from by have:=r3.1.2.2.2.2.2.2.2.2 i hc;rw[tkN_get _ hii] at this;exact this)
   generalize hni:p.ns.getD i 0=ni at *
   clear r1 r2 r3 r4 r5
   go_wp2_with fail
   refine DR.out.mono ?_
   rintro e w1 ⟨rfl,hb1⟩
   have H1:=AS hb1
   have TC:=AS (nodeTick_at (HNi.out.keep (F':=fun x=>x < wr.heap.size/\K1 x=4+i) (KS.below (fun _=>False) hb1) (fun x hx hF=>⟨⟨hx,hF⟩,id⟩)) HWT.out.1 HWT.out.2 ⟨b2,c2,d2⟩)
   clear hb1 f0 f1 f2 f3 f4
   simp only[drwV] at TC ⊢
   generalize hR:(s.nodes.getD i (S.Node.new i)).tick c ⟨b2,c2,d2⟩=R2 at TC
   obtain⟨n',o⟩:=R2
   have HR:=AS hR
   clear hR
   go_wp2_with fail
   refine TC.out.mono ?_
   rintro e w2 ⟨A1,cc1,A2,cc2,G,rfl,hN,hG,ho1,ho2,hf1,hf2,hk⟩
   obtain⟨x1,x2,x3,x4,x5,x6,x7⟩:=X.out
   rw[<- hni] at hN
   obtain⟨K2,k1,k2,k3,k4,k5,k6⟩:=x3.called (v1:=.slice A1 o.letters.length cc1) (v2:=.slice A2 o.done.length cc2) H1.out hc hN hG hf1 hf2 hk
   have ol:=HN.out _ (getD_mem (S.Node.new i) x7)
   rw[HR.out] at ol
   have tl:=TK.out i (by omega)
   have AD:=AS (k3.add ho1 ho2 (fun x hx=>by rw[k5 x hx];decide) (by have h:o.letters.length≤1000:=ol.1;omega) (by have h:o.done.length≤1000:=ol.2;omega))
   have hsz:=H1.out.size
   have hs0:=blk_lt x5
   have E2:=AS (show w2.heap[w.heap.size]?=some (.cells #[.int .i64 k,.int .i64 a2,.int .i64 b2,.int .i64 c2,.int .i64 d2] 33 (0,0)) from k6.at_ x5 (by show ¬ K1 _≤101;omega))
   have Y:=AS (show(∀ x,x < w.heap.size->K2 x=K x)/\K2 w.heap.size=200/\KS (fun x=>K x≤101) w w2 from⟨fun x hx=>(k1 x (by omega)).trans (x1 x hx),(k1 _ hs0).trans x2,x4.trans k6 (fun x hx h=>by have h':K1 x≤101:=h;rw[x1 x hx] at h';exact h')⟩)
   clear hN hG ho1 ho2 hf1 hf2 hk x1 x2 x3 x4 x5 x6 k1 k2 k3 k4 k5 k6 ol tl hs0 hsz
   go_wp2_with fail
   refine AD.out.mono ?_
   rintro e w3 h3
   have he:=h3.1
   subst he
   have Z:=AS h3
   have X7:=AS x7
   clear h3 x7
   go_wp2
   go_roundw
   case rel =>
    refine⟨i+1,by go_num,by omega,⟨?_⟩⟩
    obtain⟨-,K3,a1,a2,a3⟩:=Z.out
    have hs:=Y.out.2.2.size
    have hs1:=blk_lt E2.out
    have es:(⟨s.steps,wrap64 (s.ticks+1),(tkN c ⟨b2,c2,d2⟩ s.nodes i).set i n',s.home,s.way⟩:S.World)=(⟨s.steps,wrap64 (s.ticks+1),tkN c ⟨b2,c2,d2⟩ s.nodes (i+1),s.home,s.way⟩:S.World):=by
     rw[<- tkN_set (S.Node.new i) X7.out,HR.out]
    have el:tkL c ⟨b2,c2,d2⟩ s.nodes i ++ o.letters=tkL c ⟨b2,c2,d2⟩ s.nodes (i+1):=by rw[tkL_succ (S.Node.new i) X7.out,HR.out]
    have ed:tkD c ⟨b2,c2,d2⟩ s.nodes i ++ o.done=tkD c ⟨b2,c2,d2⟩ s.nodes (i+1):=by rw[tkD_succ (S.Node.new i) X7.out,HR.out]
    refine⟨K3,fun x hx=>(a1 x (by omega)).trans (Y.out.1 x hx),(a1 _ hs1).trans Y.out.2.1,?_,Y.out.2.2.trans a3 (fun x hx h=>by have h':K2 x≤101:=h;rw[Y.out.1 x hx] at h';exact h'),Z.out.box E2.out Y.out.2.1⟩
    rw[<- el,<- ed,<- es]
    exact a2
   case measure=>simp[intOf];omega
  ·have hin:i=p.ns.length:=by omega
   subst hin
   have X:=AS (And.intro r1 (And.intro r3 r4))
   clear r1 r2 r3 r4 r5
   go_wp2
   go_ret
   obtain⟨x1,x2,x3⟩:=X.out
   refine⟨rfl,K1,x1,?_,x3⟩
   have e1:tkN c ⟨b2,c2,d2⟩ s.nodes p.ns.length=s.nodes.map (fun(n:S.Node)=>(n.tick c ⟨b2,c2,d2⟩).1):=by unfold tkN;rw[hnl];simp
   have e2:s.nodes.take p.ns.length=s.nodes:=by rw[hnl];simp
   unfold tkL tkD at x2
   rw[e1,e2] at x2
   exact x2
end Go.Proofs.YtiebppkhaiofeaaGreat.K
