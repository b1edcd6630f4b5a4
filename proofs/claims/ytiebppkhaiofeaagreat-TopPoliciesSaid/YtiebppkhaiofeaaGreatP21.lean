/- Part of the proof of TopPolicies: what functions of the program do. -/
import Derived.Test.YtiebppkhaiofeaaGreatP20
import Derived.Test.YtiebppkhaiofeaaGreatP00
set_option maxHeartbeats 4000000
set_option maxRecDepth 100000
set_option linter.unusedVariables false
set_option linter.unusedSimpArgs false
open Go.IntKind renaming i64→I
open Go.Value renaming slice→J, int→V, bool→aA, pointer→bA
open Option renaming some→M, none→U
open Go.Obj renaming cells→O
open Go renaming Calls→bB, World→cA
open List renaming getD_eq_getElem?_getD→cB, getElem?_eq_getElem→dB, length_append→xA
open Go.Proofs.Tryz renaming prog→dA
open Go.Proofs.YtiebppkhaiofeaaGreatW.PrintWords renaming below_alloc→eA, blk_lt→eB, blk_drew→fB, blk_frozen→jA, blk_below→kA, blk_alloc→lA, blk_set→mA, blk_new→nA, blk_cell→oB
open Go.RowKit.Below renaming refl→fA, drew→iA
open Go.Proofs.YtiebppkhaiofeaaGreat.K renaming sz_alloc→gB, sz_drew→iB, rec_old→jB
open Nat renaming le_refl→pA
open Go.Proofs.YtiebppkhaiofeaaGreat.K.KS renaming below→pB, refl→qB, drew→sB, set1→tB
open And renaming intro→qA
open Bool renaming false_eq_true→vA
namespace Go.Proofs.YtiebppkhaiofeaaGreat.K
open Go.RowKit Go.Proofs.YtiebppkhaiofeaaGreatW.PrintWords Go.Proofs.YtiebppkhaiofeaaGreat.S
attribute [local go_sem] World.cell?_alloc_some
open Go.ChangeMaps Go.MapKept
section
variable {c:Cfg} {s s':S.World} {b q:Nat} {p:WPt} {K K':Nat->Nat} {w w' w1 X:cA} {G:Set_} {ls:List Let} {ds:List S.Done} {vl vd:Value}
theorem WA.called {i:Nat} {n':S.Node} {v1 v2:Value} (h:WA c s b p ls ds q K w) (hb:Below w.heap.size w X) (hi:i < p.ns.length) (hN:NodeAt c n' (p.ns.getD i 0) G w') (hG:∀ x,x < X.heap.size->G x->(x < w.heap.size/\K x=4+i)) (hf1:∀ x∈foot v1,X.heap.size≤x/\¬ G x) (hf2:∀ x∈foot v2,X.heap.size≤x/\¬ G x)
  (hk:KS (fun x=>x < w.heap.size/\K x=4+i) X w'):∃ K2,(∀ x,x < w.heap.size->K2 x=K x)/\(∀ x,w.heap.size≤x->x < X.heap.size->K2 x=200)/\WA c { s with nodes:=s.nodes.set i n' } b p ls ds q K2 w'/\(∀ x∈foot v1,K2 x=200)/\(∀ x∈foot v2,K2 x=200)/\KS (fun x=>K x≤101) w w':=by
 have hs:=hb.size
 have h64:=h.1.2.2.2.2.2.2.2.1
 have h1:=h.below hb
 have hG':∀ x,x < X.heap.size->G x->rec_ K w 200 x=4+i:=fun x hx hg=>by
  have:=hG x hx hg
  rw[jB this.1];exact this.2
 have hk':KS (fun x=>rec_ K w 200 x=4+i) X w':=hk.mono (fun x _ hx=>by show rec_ K w 200 x=_;rw[jB hx.1];exact hx.2)
 have h2:=h1.node hi hN hG' hk'
 refine⟨recG (rec_ K w 200) X G (4+i),fun x hx=>(recG_old vB).trans (jB hx),fun x hx hx2=>(recG_old hx2).trans (rec_new hx),h2,fun x hx=>recG_out (hf1 x hx).1 (hf1 x hx).2,fun x hx=>recG_out (hf2 x hx).1 (hf2 x hx).2,(pB _ hb).trans hk (fun x _ hx=>by show K x≤101;have:=hx.2;omega)⟩
theorem WA.boxed {g:Nat} (h:WA c s b p ls ds q K w) (hk:KS (fun y=>y=g) w w') (hg:g < w.heap.size->K g=200):WA c s b p ls ds q (rec_ K w 200) w' :=
 h.keep hk (fun x hx h5=>⟨jB hx,fun e=>by have e':x=g:=e;rw[e'] at hx h5;have:=hg hx;omega⟩)
end
theorem ks_cell {W x:cA} {F:Set_} {g i:Nat} (hk:KS F W x) (hg:g < W.heap.size) (hF:¬ F g):x.cell? ⟨g,i,U⟩=W.cell? ⟨g,i,U⟩:=by
 unfold World.cell?
 rw[hk.2.2.2.2 g hg hF]
theorem bchain {A X F:cA} (hl:Below X.heap.size X F) (h:Below A.heap.size A X):Below A.heap.size A F:=h.trans (hl.mono h.size)
theorem kchain {A X F:cA} {G:Set_} (hl:KS G X F) (h:KS G A X):KS G A F:=h.trans hl (fun _ _ h=>h)
theorem zblkB {Y F:cA} (hl:Below (Y.alloc (O #[J U 0 0,J U 0 0] 138)).drew.heap.size (Y.alloc (O #[J U 0 0,J U 0 0] 138)).drew F):F.heap[Y.heap.size]?=M (O #[J U 0 0,J U 0 0] 138 (0,0)):=kA (fB (nA Y _)) hl
theorem worldIssue_aux {c:Cfg} {s:S.World} {b q:Nat} {p:WPt} {K:Nat->Nat} {w:cA} (hW:WA c s b p [] [] q K w) (k b2 c2 d2:Int) (i:Nat) (hi:i < p.ns.length) (n:S.Node) (hn:n=s.nodes.getD i (S.Node.new i)) (hlen:(n.issue c (Ent.op ⟨k,(i:Int),b2,c2,d2⟩) ⟨0,0,0⟩).2.1.letters.length≤1000/\(n.issue c (Ent.op ⟨k,(i:Int),b2,c2,d2⟩) ⟨0,0,0⟩).2.1.done.length≤1000) :
  bB dA 28 #[bA (M ⟨b,0,U⟩),.agg #[V I k,V I (i:Int),V I b2,V I c2,V I d2],bA (M ⟨q,0,U⟩)] w (WP (aA (n.issue c (Ent.op ⟨k,(i:Int),b2,c2,d2⟩) ⟨0,0,0⟩).2.2) c { s with nodes:=s.nodes.set i (n.issue c (Ent.op ⟨k,(i:Int),b2,c2,d2⟩) ⟨0,0,0⟩).1 } b p (n.issue c (Ent.op ⟨k,(i:Int),b2,c2,d2⟩) ⟨0,0,0⟩).2.1.letters (n.issue c (Ent.op ⟨k,(i:Int),b2,c2,d2⟩) ⟨0,0,0⟩).2.1.done q K w):=by
 have HW:=AS hW
 obtain⟨g,hg,hgi⟩:=hW.1.ptr hi
 have hgK:K g=1:=hW.1.2.2.2.1 g (by unfold WPt.v;rw[hg];simp[foot_slice])
 have HN:=AS (show NodeAt c n (p.ns.getD i 0) (fun x=>K x=4+i) w from hn ▸ hW.1.2.2.2.2.2.2.2.2 i hi)
 have e11:=hW.1.cells.2.2.2.2.2.2.2.2.2.2.2.1
 have hbl:=eB hW.1.1
 have HB0:=AS hW.1.2.1
 have HGK:=AS hgK
 have HLN:=AS hlen
 rw[hg] at e11
 have E11:=AS e11
 have GI:=AS hgi
 clear hW hgK hn hlen
 have i0:(0:Int)≤(i:Int):=vB
 have i1:(i:Int) < (p.ns.length:Int):=vB
 generalize hR:(n.issue c (Ent.op ⟨k,(i:Int),b2,c2,d2⟩) ⟨0,0,0⟩)=R at *
 obtain⟨n',o,ok⟩:=R
 have IS:=AS (show ∀ W X,Below w.heap.size w W->Below W.heap.size W X->bB dA 54 _ X _ from fun W X h1 h2=>nodeIssue_at (HN.out.keep (F':=fun x=>x < w.heap.size/\K x=4+i) (pB (fun _=>False) (h1.trans (h2.mono h1.size))) (fun x hx hF=>⟨⟨hx,hF⟩,id⟩)) (Ent.op ⟨k,(i:Int),b2,c2,d2⟩) ⟨0,0,0⟩)
 have OPA:=AS (fun X=>op_any k (i:Int) b2 c2 d2 X)
 rw[hR] at IS
 generalize Ent.op ⟨k,(i:Int),b2,c2,d2⟩=op at OPA IS hR
 obtain⟨ob,ow,ov⟩:=op
 clear hR
 generalize hni:p.ns.getD i 0=ni at *
 have HNI:=AS hni
 clear hni
 simp only[opV,drwV] at IS OPA
 have BX:=AS (nA w (O #[V I k,V I (i:Int),V I b2,V I c2,V I d2] 33))
 have BE:=AS (eA (fA w.heap.size w) (O #[V I k,V I (i:Int),V I b2,V I c2,V I d2] 33))
 have SZ:=AS (gB w (O #[V I k,V I (i:Int),V I b2,V I c2,V I d2] 33))
 go_enter Tryz.func28,Tryz.ntmps28
 go_upto_region 1 with fail
 generalize w.alloc (O #[V I k,V I (i:Int),V I b2,V I c2,V I d2] 33)=W at BX BE SZ ⊢
 have IS:=AS (fun X h=>IS.out W X BE.out h)
 have KEEP:=AS (show ∀ x,KS (fun y=>y < w.heap.size/\K y=4+i) W x->(x.cell? ⟨b,11,U⟩=M (J (M ⟨g,0,U⟩) p.ns.length p.cp)/\x.cell? ⟨g,i,U⟩=M (bA (M ⟨ni,0,U⟩))/\x.cell? ⟨w.heap.size,0,U⟩=M (V I k)/\x.cell? ⟨w.heap.size,1,U⟩=M (V I (i:Int))/\x.cell? ⟨w.heap.size,2,U⟩=M (V I b2)/\x.cell? ⟨w.heap.size,3,U⟩=M (V I c2)/\x.cell? ⟨w.heap.size,4,U⟩=M (V I d2)) from fun x hx=>by
  have hb1:=hx.at_ (kA HW.out.1.1 BE.out) (fun h=>by have h2:=h.2;rw[HB0.out] at h2;omega)
  have hb2:=hx.at_ BX.out (fun h=>by have h2:=h.1;omega)
  have hr:x.cell? ⟨g,i,U⟩=M (bA (M ⟨ni,0,U⟩)):=by
   rw[ks_cell hx (by have h1:g < w.heap.size:=World.block_lt_of_cell? w _ GI.out;have:=BE.out.size;omega) (fun h=>by have h2:=h.2;rw[HGK.out] at h2;omega),(bcell BE.out).1 g i (World.block_lt_of_cell? w _ GI.out)]
   exact GI.out
  refine⟨(oB hb1 11).trans ?_,hr,cw hb2 0,cw hb2 1,cw hb2 2,cw hb2 3,cw hb2 4⟩
  unfold wldC;rw[hg];rfl)
 have ZF:=AS (show ∀ (x:cA) (g:Nat),x.heap[g]?=M (O #[J U 0 0,J U 0 0] 138 (0,0))->(x.cell? ⟨g,0,U⟩=M (J U 0 0)/\x.cell? ⟨g,1,U⟩=M (J U 0 0)/\x.frozen? ⟨g,0,U⟩=false/\x.frozen? ⟨g,1,U⟩=false) from fun x g h=>⟨cw h 0,cw h 1,jA h 0,jA h 1⟩)
 obtain⟨e0_,e1_,e2_,e3_,e4_,e5_,e6_⟩:=KEEP.out W (qB _ _)
 clear e11 hgi
 go_cut [7,8] (fun v7 v8 wx=>∃ g7 A1 cc1 A2 cc2 K2,v7=bA (M ⟨g7,0,U⟩)/\v8=aA ok/\wx.heap[g7]?=M (O #[J A1 o.letters.length cc1,J A2 o.done.length cc2] 138 (0,0))/\(∀ x,x < w.heap.size->K2 x=K x)/\WA c { s with nodes:=s.nodes.set i n' } b p [] [] q K2 wx/\OwnE letE (J A1 o.letters.length cc1) o.letters wx/\OwnE doneE (J A2 o.done.length cc2) o.done wx/\(∀ x∈foot (J A2 o.done.length cc2),K2 x≠101)/\KS (fun x=>K x≤101) w wx)
 case first =>
  go_region_held3 (fun x=>x.cell? ⟨b,11,U⟩=M (J (M ⟨g,0,U⟩) p.ns.length p.cp)/\x.cell? ⟨g,i,U⟩=M (bA (M ⟨ni,0,U⟩))/\x.cell? ⟨w.heap.size,0,U⟩=M (V I k)/\x.cell? ⟨w.heap.size,1,U⟩=M (V I (i:Int))/\x.cell? ⟨w.heap.size,2,U⟩=M (V I b2)/\x.cell? ⟨w.heap.size,3,U⟩=M (V I c2)/\x.cell? ⟨w.heap.size,4,U⟩=M (V I d2)) ((refine KEEP.out _ ?_;(repeat (first | with_reducible exact qB _ _ | with_reducible apply KS.alloc | with_reducible apply sB | with_reducible refine kchain H2.out ?_ | with_reducible refine KS.andBelow ?_ H1.out | (with_reducible refine KS.set ?_ (.inr ?_) _ _;rotate_left;(focus (first | (have z1:=H1.out.size;simp only[gB,iB] at z1 ⊢;omega) | (simp only[gB,iB];omega)))))))) ((first | (go_at_call 55;refine(OPA.out _).mono ?_;rintro e w1 ⟨rfl,hb⟩;have H1:=AS hb;clear hb;have hsz:=H1.out.size;(first | rw[gB] at hsz | rw[iB,gB] at hsz);clear hsz;have QF:Aside0 (w1.heap[W.heap.size]?=M (O #[J U 0 0,J U 0 0] 138 (0,0))):=AS (zblkB (Y:=W) H1.out);obtain⟨q10_,q11_,q12_,q13_⟩:=ZF.out _ _ QF.out) | (go_at_call 55;refine(OPA.out _).mono ?_;rintro e w1 ⟨rfl,hb⟩;have H1:=AS hb;clear hb) | (go_at_call 54;refine(IS.out _ ?_).mono ?_;(focus ((repeat (with_reducible first | exact fA _ _ | apply eA | apply iA | refine bchain H1.out ?_))));rintro e w2 ⟨A1,cc1,A2,cc2,G,rfl,hN,hG,ho1,ho2,hf1,hf2,hk⟩;have hX:=hk.size;have H2:=AS hk;have F2:=AS (qA hN (qA hG (qA ho1 (qA ho2 (qA hf1 hf2)))));clear hN hG ho1 ho2 hf1 hf2 hk;clear hX;have QF:Aside0 (w2.heap[W.heap.size]?=M (O #[J U 0 0,J U 0 0] 138 (0,0))):=AS (H2.out.at_ QF.out (fun hx=>by have h0:=hx.1;have z0:=SZ.out;have z1:=H1.out.size;simp only[gB,iB] at z1 h0;omega));obtain⟨q20_,q21_,q22_,q23_⟩:=ZF.out _ _ QF.out) | (go_at_call 54;refine(IS.out _ ?_).mono ?_;(focus ((repeat (with_reducible first | exact fA _ _ | apply eA | apply iA | refine bchain H1.out ?_))));rintro e w2 ⟨A1,cc1,A2,cc2,G,rfl,hN,hG,ho1,ho2,hf1,hf2,hk⟩;have hX:=hk.size;have H2:=AS hk;have F2:=AS (qA hN (qA hG (qA ho1 (qA ho2 (qA hf1 hf2)))));clear hN hG ho1 ho2 hf1 hf2 hk;(first | rw[gB] at hX | rw[iB,gB] at hX);clear hX;have QF:Aside0 (w2.heap[w1.heap.size]?=M (O #[J U 0 0,J U 0 0] 138 (0,0))):=AS (H2.out.at_ (nA w1 (O #[J U 0 0,J U 0 0] 138)) (fun hx=>by have h0:=hx.1;have z0:=SZ.out;have z1:=H1.out.size;simp only[gB,iB] at z1 h0;omega));obtain⟨q20_,q21_,q22_,q23_⟩:=ZF.out _ _ QF.out) | (go_at_call 54;refine(IS.out _ ?_).mono ?_;(focus ((repeat (with_reducible first | exact fA _ _ | apply eA | apply iA | refine bchain H1.out ?_))));rintro e w2 ⟨A1,cc1,A2,cc2,G,rfl,hN,hG,ho1,ho2,hf1,hf2,hk⟩;have hX:=hk.size;have H2:=AS hk;have F2:=AS (qA hN (qA hG (qA ho1 (qA ho2 (qA hf1 hf2)))));clear hN hG ho1 ho2 hf1 hf2 hk;clear hX)))
  ·go_wp2_with fail
   go_meet
   have s0:=SZ.out
   have s1:=H1.out.size
   have s2:=H2.out.size
   simp only[gB,iB,sz_set] at s1 s2
   obtain⟨hN,hG,ho1,ho2,hf1,hf2⟩:=F2.out
   have hlt1:=ho1.lt
   have hlt2:=ho2.lt
   rw[<- HNI.out] at hN
   obtain⟨K2,k1,k2,k3,k4,k5,k6⟩:=HW.out.called (v1:=J A1 o.letters.length cc1) (v2:=J A2 o.done.length cc2) (BE.out.trans (Below.mono (B:=W.heap.size) (by (repeat (with_reducible first | exact fA _ _ | apply eA | apply iA | refine bchain H1.out ?_))) vB)) hi hN hG hf1 hf2 H2.out
   refine⟨w2.heap.size,A1,cc1,A2,cc2,rec_ K2 w2 200,rfl,rfl,?_,fun x hx=>(jB vB).trans (k1 x hx),k3.boxed (g:=w2.heap.size) ?_ (fun hx=>k2 _ vB (by (try simp only[gB,iB]);omega)),ho1.ks (G:=fun y=>y=w2.heap.size) ?_ (fun x hx e=>?_),ho2.ks (G:=fun y=>y=w2.heap.size) ?_ (fun x hx e=>?_),fun x hx=>?_,k6.trans (G:=fun y=>y=w2.heap.size) ?_ (fun x hx e=>?_)⟩
   ·apply blk_as
    ·(repeat (with_reducible first | exact QF.out | apply mA | apply nA))
    ·simp
   ·(repeat (with_reducible first | exact qB _ _ | refine tB ?_ _ _ | apply KS.alloc | apply sB))
   ·(repeat (with_reducible first | exact qB _ _ | refine tB ?_ _ _ | apply KS.alloc | apply sB))
   ·have h1:=hlt1 x hx
    have h2:=(hf1 x hx).1
    have e':x=w2.heap.size:=e
    (try simp only[gB,iB,sz_set] at h1 h2)
    omega
   ·(repeat (with_reducible first | exact qB _ _ | refine tB ?_ _ _ | apply KS.alloc | apply sB))
   ·have h1:=hlt2 x hx
    have h2:=(hf2 x hx).1
    have e':x=w2.heap.size:=e
    (try simp only[gB,iB,sz_set] at h1 h2)
    omega
   ·rw[jB (hlt2 x hx),k5 x hx];decide
   ·(repeat (with_reducible first | exact qB _ _ | refine tB ?_ _ _ | apply KS.alloc | apply sB))
   ·have e':x=w2.heap.size:=e
    omega
  ·go_wp2_with fail
   go_meet
   have s0:=SZ.out
   have s1:=H1.out.size
   have s2:=H2.out.size
   simp only[gB,iB,sz_set] at s1 s2
   obtain⟨hN,hG,ho1,ho2,hf1,hf2⟩:=F2.out
   have hlt1:=ho1.lt
   have hlt2:=ho2.lt
   rw[<- HNI.out] at hN
   obtain⟨K2,k1,k2,k3,k4,k5,k6⟩:=HW.out.called (v1:=J A1 o.letters.length cc1) (v2:=J A2 o.done.length cc2) (BE.out.trans (Below.mono (B:=W.heap.size) (by (repeat (with_reducible first | exact fA _ _ | apply eA | apply iA | refine bchain H1.out ?_))) vB)) hi hN hG hf1 hf2 H2.out
   refine⟨w1.heap.size,A1,cc1,A2,cc2,rec_ K2 w2 200,rfl,rfl,?_,fun x hx=>(jB vB).trans (k1 x hx),k3.boxed (g:=w1.heap.size) ?_ (fun hx=>k2 _ vB (by (try simp only[gB,iB]);omega)),ho1.ks (G:=fun y=>y=w1.heap.size) ?_ (fun x hx e=>?_),ho2.ks (G:=fun y=>y=w1.heap.size) ?_ (fun x hx e=>?_),fun x hx=>?_,k6.trans (G:=fun y=>y=w1.heap.size) ?_ (fun x hx e=>?_)⟩
   ·apply blk_as
    ·(repeat (with_reducible first | exact QF.out | apply mA | apply nA))
    ·simp
   ·(repeat (with_reducible first | exact qB _ _ | refine tB ?_ _ _ | apply KS.alloc | apply sB))
   ·(repeat (with_reducible first | exact qB _ _ | refine tB ?_ _ _ | apply KS.alloc | apply sB))
   ·have h1:=hlt1 x hx
    have h2:=(hf1 x hx).1
    have e':x=w1.heap.size:=e
    (try simp only[gB,iB,sz_set] at h1 h2)
    omega
   ·(repeat (with_reducible first | exact qB _ _ | refine tB ?_ _ _ | apply KS.alloc | apply sB))
   ·have h1:=hlt2 x hx
    have h2:=(hf2 x hx).1
    have e':x=w1.heap.size:=e
    (try simp only[gB,iB,sz_set] at h1 h2)
    omega
   ·rw[jB (hlt2 x hx),k5 x hx];decide
   ·(repeat (with_reducible first | exact qB _ _ | refine tB ?_ _ _ | apply KS.alloc | apply sB))
   ·have e':x=w1.heap.size:=e
    omega
  ·go_wp2_with fail
   go_meet
   have s0:=SZ.out
   have s1:=H1.out.size
   have s2:=H2.out.size
   simp only[gB,iB,sz_set] at s1 s2
   obtain⟨hN,hG,ho1,ho2,hf1,hf2⟩:=F2.out
   have hlt1:=ho1.lt
   have hlt2:=ho2.lt
   rw[<- HNI.out] at hN
   obtain⟨K2,k1,k2,k3,k4,k5,k6⟩:=HW.out.called (v1:=J A1 o.letters.length cc1) (v2:=J A2 o.done.length cc2) (BE.out.trans (Below.mono (B:=W.heap.size) (by (repeat (with_reducible first | exact fA _ _ | apply eA | apply iA | refine bchain H1.out ?_))) vB)) hi hN hG hf1 hf2 H2.out
   refine⟨W.heap.size,A1,cc1,A2,cc2,rec_ K2 w2 200,rfl,rfl,?_,fun x hx=>(jB vB).trans (k1 x hx),k3.boxed (g:=W.heap.size) ?_ (fun hx=>k2 _ vB (by (try simp only[gB,iB]);omega)),ho1.ks (G:=fun y=>y=W.heap.size) ?_ (fun x hx e=>?_),ho2.ks (G:=fun y=>y=W.heap.size) ?_ (fun x hx e=>?_),fun x hx=>?_,k6.trans (G:=fun y=>y=W.heap.size) ?_ (fun x hx e=>?_)⟩
   ·apply blk_as
    ·(repeat (with_reducible first | exact QF.out | apply mA | apply nA))
    ·simp
   ·(repeat (with_reducible first | exact qB _ _ | refine tB ?_ _ _ | apply KS.alloc | apply sB))
   ·(repeat (with_reducible first | exact qB _ _ | refine tB ?_ _ _ | apply KS.alloc | apply sB))
   ·have h1:=hlt1 x hx
    have h2:=(hf1 x hx).1
    have e':x=W.heap.size:=e
    (try simp only[gB,iB,sz_set] at h1 h2)
    omega
   ·(repeat (with_reducible first | exact qB _ _ | refine tB ?_ _ _ | apply KS.alloc | apply sB))
   ·have h1:=hlt2 x hx
    have h2:=(hf2 x hx).1
    have e':x=W.heap.size:=e
    (try simp only[gB,iB,sz_set] at h1 h2)
    omega
   ·rw[jB (hlt2 x hx),k5 x hx];decide
   ·(repeat (with_reducible first | exact qB _ _ | refine tB ?_ _ _ | apply KS.alloc | apply sB))
   ·have e':x=W.heap.size:=e
    omega
 case rest =>
  obtain⟨g7,A1,cc1,A2,cc2,K2,rfl,rfl,hq7,hK2,hWA,hO1,hO2,hfo,hks⟩:=hcut
  have c0:=cw hq7 0 (v:=J A1 o.letters.length cc1)
  have c1:=cw hq7 1 (v:=J A2 o.done.length cc2)
  have AD:=AS (hWA.add hO1 hO2 hfo (by have h:o.letters.length≤1000:=HLN.out.1;simp only[List.length_nil];omega) (by have h:o.done.length≤1000:=HLN.out.2;simp only[List.length_nil];omega))
  have X2:=AS (qA hK2 hks)
  clear hq7 hK2 hWA hO1 hO2 hfo hks e0_ e1_ e2_ e3_ e4_ e5_ e6_
  go_wp2_with fail
  refine AD.out.mono ?_
  rintro e w3 ⟨rfl,h3⟩
  have X3:=AS h3
  clear h3
  go_wp2
  go_ret
  obtain⟨K3,a1,a2,a3⟩:=X3.out
  have hs:=X2.out.2.size
  simp only[List.nil_append] at a2
  exact⟨rfl,K3,fun x hx=>(a1 x vB).trans (X2.out.1 x hx),a2,X2.out.2.trans a3 (fun x hx h=>by have h':K2 x≤101:=h;rw[X2.out.1 x hx] at h';exact h')⟩
def tkN (c:Cfg) (d:Drw) (ns:List S.Node) (i:Nat):List S.Node:=(ns.take i).map (fun(n:S.Node)=>(n.tick c d).1) ++ ns.drop i
def tkL (c:Cfg) (d:Drw) (ns:List S.Node) (i:Nat):List Let:=((ns.take i).map fun(n:S.Node)=>n.tick c d).flatMap (·.2.letters)
def tkD (c:Cfg) (d:Drw) (ns:List S.Node) (i:Nat):List S.Done:=((ns.take i).map fun(n:S.Node)=>n.tick c d).flatMap (·.2.done)
section
variable {c:Cfg} {d:Drw} {ns:List S.Node} {i:Nat} (x:S.Node)
theorem getD_at (h:i < ns.length):ns.getD i x=ns[i]:=by rw[cB,dB h];rfl
theorem take_one (h:i < ns.length):ns.take (i+1)=ns.take i ++ [ns.getD i x]:=by rw[List.take_add_one,dB h,getD_at x h];rfl
theorem tkN_pre (h:i < ns.length):((ns.take i).map (fun(n:S.Node)=>(n.tick c d).1)).length=i:=by rw[List.length_map,List.length_take];omega
theorem tkN_get (h:i < ns.length):(tkN c d ns i).getD i x=ns.getD i x:=by
 unfold tkN
 rw[cB,List.getElem?_append_right (by rw[tkN_pre h];exact pA _),tkN_pre h,Nat.sub_self,List.getElem?_drop,cB]
 rfl
theorem tkN_set (h:i < ns.length):(tkN c d ns i).set i ((ns.getD i x).tick c d).1=tkN c d ns (i+1):=by
 unfold tkN
 rw[List.set_append_right _ _ (by rw[tkN_pre h];exact pA _),tkN_pre h,Nat.sub_self,List.drop_eq_getElem_cons h,List.set_cons_zero,take_one x h,List.map_append,List.append_assoc,List.map_cons,List.map_nil]
 rfl
theorem tkL_succ (h:i < ns.length):tkL c d ns (i+1)=tkL c d ns i ++ ((ns.getD i x).tick c d).2.letters:=by
 unfold tkL
 rw[take_one x h,List.map_append,List.flatMap_append,List.map_cons,List.map_nil,List.flatMap_cons,List.flatMap_nil,List.append_nil]
theorem tkD_succ (h:i < ns.length):tkD c d ns (i+1)=tkD c d ns i ++ ((ns.getD i x).tick c d).2.done:=by
 unfold tkD
 rw[take_one x h,List.map_append,List.flatMap_append,List.map_cons,List.map_nil,List.flatMap_cons,List.flatMap_nil,List.append_nil]
theorem tk_len (hb:∀ n∈ns,(n.tick c d).2.letters.length≤1000/\(n.tick c d).2.done.length≤1000):∀ i,i≤ns.length->(tkL c d ns i).length≤1000 * i/\(tkD c d ns i).length≤1000 * i
 | 0,_=>by simp[tkL,tkD]
 | i+1,h=>by
  have ih:=tk_len hb i vB
  have hm:=hb _ (getD_mem (S.Node.new 0) (show i < ns.length by omega))
  rw[tkL_succ (S.Node.new 0) (show i < ns.length by omega),tkD_succ (S.Node.new 0) (show i < ns.length by omega),xA,xA]
  omega
end
theorem WP.box {v:Value} {c:Cfg} {s:S.World} {b:Nat} {p:WPt} {ls:List Let} {ds:List S.Done} {q:Nat} {K:Nat->Nat} {w w':cA} {e:Ending} (h:WP v c s b p ls ds q K w e w') {g:Nat} {o:Obj} (hg:w.heap[g]?=M o) (hK:K g=200):w'.heap[g]?=M o:=by
 obtain⟨-,K',-,-,hk⟩:=h
 exact hk.at_ hg (by show ¬ K g≤101;omega)
theorem worldTick_any {c:Cfg} {s:S.World} {b q:Nat} {p:WPt} {K:Nat->Nat} {w:cA} (hW:WA c s b p [] [] q K w) (hw0:0≤c.wait) (hw1:c.wait≤64) (k a2 b2 c2 d2:Int) (hlen:∀ n∈s.nodes,(n.tick c ⟨b2,c2,d2⟩).2.letters.length≤1000/\(n.tick c ⟨b2,c2,d2⟩).2.done.length≤1000) :
  bB dA 34 #[bA (M ⟨b,0,U⟩),.agg #[V I k,V I a2,V I b2,V I c2,V I d2],bA (M ⟨q,0,U⟩)] w (WP (aA true) c ⟨s.steps,wrap64 (s.ticks+1),s.nodes.map (fun(n:S.Node)=>(n.tick c ⟨b2,c2,d2⟩).1),s.home,s.way⟩ b p ((s.nodes.map fun(n:S.Node)=>n.tick c ⟨b2,c2,d2⟩).flatMap (·.2.letters)) ((s.nodes.map fun(n:S.Node)=>n.tick c ⟨b2,c2,d2⟩).flatMap (·.2.done)) q K w):=by
 have HW:=AS hW
 have hnl:=hW.1.2.2.2.2.2.2.1
 have hn64:=hW.1.2.2.2.2.2.2.2.1
 have hbl:=eB hW.1.1
 have TK:=AS (fun i hi=>tk_len (c:=c) (d:=⟨b2,c2,d2⟩) hlen i hi)
 have HN:=AS (fun n hn=>hlen n hn)
 have BX:=AS (nA w (O #[V I k,V I a2,V I b2,V I c2,V I d2] 33))
 have BE:=AS (eA (fA w.heap.size w) (O #[V I k,V I a2,V I b2,V I c2,V I d2] 33))
 have SZ:=AS (gB w (O #[V I k,V I a2,V I b2,V I c2,V I d2] 33))
 have HWT:=AS (qA hw0 hw1)
 clear hW hlen hw0 hw1
 go_enter Tryz.func34,Tryz.ntmps34
 go_upto_region 1 with fail
 generalize w.alloc (O #[V I k,V I a2,V I b2,V I c2,V I d2] 33)=W at BX BE SZ ⊢
 have HA:=AS (HW.out.below BE.out)
 have e10:=cw HA.out.1.1 10 (v:=V I s.ticks)
 have z10:=jA HA.out.1.1 10
 have e11:=cw HA.out.1.1 11 (v:=J p.A p.ns.length p.cp)
 go_upto_region 2 with fail
 have R0:=AS (show(∃ K1,(∀ x,x < w.heap.size->K1 x=K x)/\K1 w.heap.size=200/\WA c (⟨s.steps,wrap64 (s.ticks+1),tkN c ⟨b2,c2,d2⟩ s.nodes 0,s.home,s.way⟩:S.World) b p (tkL c ⟨b2,c2,d2⟩ s.nodes 0) (tkD c ⟨b2,c2,d2⟩ s.nodes 0) q K1 (W.setCell ⟨b,10,U⟩ (V I (wrap64 (s.ticks+1))))/\KS (fun x=>K x≤101) w (W.setCell ⟨b,10,U⟩ (V I (wrap64 (s.ticks+1))))/\(W.setCell ⟨b,10,U⟩ (V I (wrap64 (s.ticks+1)))).heap[w.heap.size]?=M (O #[V I k,V I a2,V I b2,V I c2,V I d2] 33 (0,0))) from by
  have hs:=SZ.out
  have hb0:K b≤101:=by have:=HW.out.1.2.1;omega
  exact⟨rec_ K w 200,fun x hx=>jB hx,rec_new (pA _),HA.out.num 10 _ s.steps _ (by simp[wldC]),KS.set (F:=fun x=>K x≤101) (pB _ BE.out) (g:=b) (.inl hb0) 10 _,(Below.heap_setCell W ⟨b,10,U⟩ _ w.heap.size (by show w.heap.size≠b;omega)).trans BX.out⟩)
 go_wp2_with fail
 generalize W.setCell ⟨b,10,U⟩ (V I (wrap64 (s.ticks+1)))=WT at R0 ⊢
 go_loopw [8,21] (fun v8 v21 wr=>∃ i:Nat,v21=V I i/\i≤p.ns.length/\Aside0 (∃ K1,(∀ x,x < w.heap.size->K1 x=K x)/\K1 w.heap.size=200/\WA c (⟨s.steps,wrap64 (s.ticks+1),tkN c ⟨b2,c2,d2⟩ s.nodes i,s.home,s.way⟩:S.World) b p (tkL c ⟨b2,c2,d2⟩ s.nodes i) (tkD c ⟨b2,c2,d2⟩ s.nodes i) q K1 wr/\KS (fun x=>K x≤101) w wr/\wr.heap[w.heap.size]?=M (O #[V I k,V I a2,V I b2,V I c2,V I d2] 33 (0,0)))) (fun _ v21 _=>65 - (intOf v21).toNat)
 case atStart=>exact⟨0,rfl,vB,R0⟩
 case round =>
  obtain⟨i,rfl,hi,R⟩:=hrel
  obtain⟨K1,r1,r2,r3,r4,r5⟩:=R.out
  by_cases hc:i < p.ns.length
  ·have q0:(0:Int)≤(i:Int):=vB
   have q1:(i:Int) < (p.ns.length:Int):=vB
   obtain⟨g,hg,hgi⟩:=r3.1.ptr hc
   have HG:=AS hg
   generalize hA:p.A=PA at *
   subst hg
   have f0:=cw r5 0 (v:=V I k)
   have f1:=cw r5 1 (v:=V I a2)
   have f2:=cw r5 2 (v:=V I b2)
   have f3:=cw r5 3 (v:=V I c2)
   have f4:=cw r5 4 (v:=V I d2)
   have DR:=AS (draws_any k a2 b2 c2 d2 wr)
   have hii:i < s.nodes.length:=vB
   have X:=AS (qA r1 (qA r2 (qA r3 (qA r4 (qA r5 (qA hA hii))))))
   have HNi:=AS (show NodeAt c (s.nodes.getD i (S.Node.new i)) (p.ns.getD i 0) (fun x=>K1 x=4+i) wr from by have:=r3.1.2.2.2.2.2.2.2.2 i hc;rw[tkN_get _ hii] at this;exact this)
   generalize hni:p.ns.getD i 0=ni at *
   clear r1 r2 r3 r4 r5
   go_wp2_with fail
   refine DR.out.mono ?_
   rintro e w1 ⟨rfl,hb1⟩
   have H1:=AS hb1
   have TC:=AS (nodeTick_at (HNi.out.keep (F':=fun x=>x < wr.heap.size/\K1 x=4+i) (pB (fun _=>False) hb1) (fun x hx hF=>⟨⟨hx,hF⟩,id⟩)) HWT.out.1 HWT.out.2 ⟨b2,c2,d2⟩)
   clear hb1 f0 f1 f2 f3 f4
   simp only[drwV] at TC ⊢
   generalize hR:(s.nodes.getD i (S.Node.new i)).tick c ⟨b2,c2,d2⟩=R2 at TC
   obtain⟨n',o⟩:=R2
   have HR:=AS hR
   clear hR
   go_wp2_with fail
   refine TC.out.mono ?_
   rintro e w2 ⟨A1,cc1,A2,cc2,G,rfl,hN,hG,ho1,ho2,hf1,hf2,hk⟩
   obtain⟨x1,x2,x3,x4,x5,x6,x7⟩:=X.out
   rw[<- hni] at hN
   obtain⟨K2,k1,k2,k3,k4,k5,k6⟩:=x3.called (v1:=J A1 o.letters.length cc1) (v2:=J A2 o.done.length cc2) H1.out hc hN hG hf1 hf2 hk
   have ol:=HN.out _ (getD_mem (S.Node.new i) x7)
   rw[HR.out] at ol
   have tl:=TK.out i vB
   have AD:=AS (k3.add ho1 ho2 (fun x hx=>by rw[k5 x hx];decide) (by have h:o.letters.length≤1000:=ol.1;omega) (by have h:o.done.length≤1000:=ol.2;omega))
   have hsz:=H1.out.size
   have hs0:=eB x5
   have E2:=AS (show w2.heap[w.heap.size]?=M (O #[V I k,V I a2,V I b2,V I c2,V I d2] 33 (0,0)) from k6.at_ x5 (by show ¬ K1 _≤101;omega))
   have Y:=AS (show(∀ x,x < w.heap.size->K2 x=K x)/\K2 w.heap.size=200/\KS (fun x=>K x≤101) w w2 from⟨fun x hx=>(k1 x vB).trans (x1 x hx),(k1 _ hs0).trans x2,x4.trans k6 (fun x hx h=>by have h':K1 x≤101:=h;rw[x1 x hx] at h';exact h')⟩)
   clear hN hG ho1 ho2 hf1 hf2 hk x1 x2 x3 x4 x5 x6 k1 k2 k3 k4 k5 k6 ol tl hs0 hsz
   go_wp2_with fail
   refine AD.out.mono ?_
   rintro e w3 h3
   have he:=h3.1
   subst he
   have Z:=AS h3
   have X7:=AS x7
   clear h3 x7
   go_wp2
   go_roundw
   case rel =>
    refine⟨i+1,by go_num,vB,⟨?_⟩⟩
    obtain⟨-,K3,a1,a2,a3⟩:=Z.out
    have hs:=Y.out.2.2.size
    have hs1:=eB E2.out
    have es:(⟨s.steps,wrap64 (s.ticks+1),(tkN c ⟨b2,c2,d2⟩ s.nodes i).set i n',s.home,s.way⟩:S.World)=(⟨s.steps,wrap64 (s.ticks+1),tkN c ⟨b2,c2,d2⟩ s.nodes (i+1),s.home,s.way⟩:S.World):=by
     rw[<- tkN_set (S.Node.new i) X7.out,HR.out]
    have el:tkL c ⟨b2,c2,d2⟩ s.nodes i ++ o.letters=tkL c ⟨b2,c2,d2⟩ s.nodes (i+1):=by rw[tkL_succ (S.Node.new i) X7.out,HR.out]
    have ed:tkD c ⟨b2,c2,d2⟩ s.nodes i ++ o.done=tkD c ⟨b2,c2,d2⟩ s.nodes (i+1):=by rw[tkD_succ (S.Node.new i) X7.out,HR.out]
    refine⟨K3,fun x hx=>(a1 x vB).trans (Y.out.1 x hx),(a1 _ hs1).trans Y.out.2.1,?_,Y.out.2.2.trans a3 (fun x hx h=>by have h':K2 x≤101:=h;rw[Y.out.1 x hx] at h';exact h'),Z.out.box E2.out Y.out.2.1⟩
    rw[<- el,<- ed,<- es]
    exact a2
   case measure=>simp[intOf];omega
  ·have hin:i=p.ns.length:=vB
   subst hin
   have X:=AS (qA r1 (qA r3 r4))
   clear r1 r2 r3 r4 r5
   go_wp2
   go_ret
   obtain⟨x1,x2,x3⟩:=X.out
   refine⟨rfl,K1,x1,?_,x3⟩
   have e1:tkN c ⟨b2,c2,d2⟩ s.nodes p.ns.length=s.nodes.map (fun(n:S.Node)=>(n.tick c ⟨b2,c2,d2⟩).1):=by unfold tkN;rw[hnl];simp
   have e2:s.nodes.take p.ns.length=s.nodes:=by rw[hnl];simp
   unfold tkL tkD at x2
   rw[e1,e2] at x2
   exact x2
section
variable {c:Cfg} {s s':S.World} {b q:Nat} {p:WPt} {K K':Nat->Nat} {w w' w1 X:cA} {G:Set_} {ls:List Let} {ds:List S.Done} {vl vd:Value}
theorem WA.netted {xs:List Let} (h:WA c s b p ls ds q K w) (hb:Below w.heap.size w X) (hN:NetAt c.cap xs p.y (gr (fun x=>x < w.heap.size/\K x=3) X) w') (hk:KS (fun x=>x < w.heap.size/\K x=3) X w') :
  ∃ K2,(∀ x,x < w.heap.size->K2 x=K x)/\(∀ x,w.heap.size≤x->x < X.heap.size->K2 x=200)/\WA c { s with way:=xs } b p ls ds q K2 w'/\KS (fun x=>K x≤101) w w':=by
 have hs:=hb.size
 have h1:=h.below hb
 have hk':KS (fun x=>rec_ K w 200 x=3) X w':=hk.mono (fun x _ hx=>by show rec_ K w 200 x=_;rw[jB hx.1];exact hx.2)
 have hN':NetAt c.cap xs p.y (gr (fun x=>rec_ K w 200 x=3) X) w':=hN.keep (qB (fun _=>False) _) (fun x _ hx=>⟨hx.imp (fun h=>by show rec_ K w 200 x=3;rw[jB h.1];exact h.2) id,id⟩)
 exact⟨rec_ (rec_ K w 200) X 3,fun x hx=>(jB vB).trans (jB hx),fun x hx hx2=>(jB hx2).trans (rec_new hx),h1.net hN' hk',(pB _ hb).trans hk (fun x _ hx=>by show K x≤101;have:=hx.2;omega)⟩
theorem WA.homed {h':S.Home} {v1:Value} (h:WA c s b p ls ds q K w) (hb:Below w.heap.size w X) (hN:HomeAt c h' p.h G w') (hG:∀ x,x < X.heap.size->G x->(x < w.heap.size/\K x=2)) (hf1:∀ x∈foot v1,X.heap.size≤x/\¬ G x) (hk:KS (fun x=>x < w.heap.size/\K x=2) X w') :
  ∃ K2,(∀ x,x < w.heap.size->K2 x=K x)/\(∀ x,w.heap.size≤x->x < X.heap.size->K2 x=200)/\WA c { s with home:=h' } b p ls ds q K2 w'/\(∀ x∈foot v1,K2 x=200)/\KS (fun x=>K x≤101) w w':=by
 have hs:=hb.size
 have h1:=h.below hb
 have hk':KS (fun x=>rec_ K w 200 x=2) X w':=hk.mono (fun x _ hx=>by show rec_ K w 200 x=_;rw[jB hx.1];exact hx.2)
 exact⟨recG (rec_ K w 200) X G 2,fun x hx=>(recG_old vB).trans (jB hx),fun x hx hx2=>(recG_old hx2).trans (rec_new hx),h1.home hN (fun x hx hg=>by have:=hG x hx hg;rw[jB this.1];exact this.2) hk',fun x hx=>recG_out (hf1 x hx).1 (hf1 x hx).2,(pB _ hb).trans hk (fun x _ hx=>by show K x≤101;have:=hx.2;omega)⟩
end
theorem WA.sent {c:Cfg} {s:S.World} {b q:Nat} {p:WPt} {K:Nat->Nat} {w:cA} {ds:List S.Done} {ls0 ls:List Let} {v:Value} (h:WA c s b p ls0 ds q K w) (hO:OwnE letE v ls w) (hf:∀ x∈foot v,K x=200) :
  ∃ K',(∀ x,x∉foot v->K' x=K x)/\WA c s b p ls ds q K' (w.setCell ⟨q,0,U⟩ v):=by
 obtain⟨h1,vl,vd,k1,k2,k3,k4,k5,k6,k7,k8,k9⟩:=h
 have hq:q∉foot v:=fun e=>by have:=hf q e;omega
 have hd:∀ x∈foot v,x∉foot vd:=fun x hx hd=>by have:=hf x hx;have:=k9 x hd;omega
 have hk2:=KS.set (qB (fun x=>x=q) w) (.inl rfl) 0 v (g:=q)
 classical
 refine⟨fun x=>if x∈foot v then 101 else K x,fun x hx=>if_neg hx,h1.keep hk2 (fun x hx h5=>⟨if_neg (fun e=>by have:=hf x e;omega),fun e=>by have e':x=q:=e;rw[e'] at h5;omega⟩),v,vd,(mA k1 0 v).trans zB,hO.ks hk2 (fun x hx e=>hq (e ▸ hx)),k3.ks hk2 (fun x hx e=>k5 (e ▸ hx)),hq,k5,hd,?_,fun x hx=>if_pos hx,fun x hx=>?_⟩
 ·simp only[if_neg hq];exact k7
 ·by_cases e:x∈foot v
  ·exact if_pos e
  ·simp only[if_neg e];exact k9 x hx
theorem kchainL {A X F:cA} {G:Set_} {q:Nat} (hl:KS G X F) (h:KS (fun y=>G y∨y=q) A X):KS (fun y=>G y∨y=q) A F:=h.trans hl (fun _ _ h=>.inl h)
theorem zblkL {Y F:cA} {G:Set_} (hl:KS G (Y.alloc (O #[V I 0,V I 0,V I 0,V I 0,V I 0,V I 0,aA false,V I 0,aA false,aA false,V I 0] 47)).drew F) (hG:¬ G Y.heap.size):F.heap[Y.heap.size]?=M (O #[V I 0,V I 0,V I 0,V I 0,V I 0,V I 0,aA false,V I 0,aA false,aA false,V I 0] 47 (0,0)):=hl.at_ (fB (nA Y _)) hG
theorem worldDeliver_aux {c:Cfg} {s:S.World} {b q:Nat} {p:WPt} {K:Nat->Nat} {w:cA} (hW:WA c s b p [] [] q K w) (k a2 b2 c2 d2:Int) (hz:Bool) (lk lf lt lb lq lw:Int) (lwr:Bool) (lc:Int) (lo lh:Bool) (ld:Int) (hh:netHas s.way a2=hz) (hg:netGot s.way a2=⟨lk,lf,lt,lb,lq,lw,lwr,⟨lc,lo,lh,ld⟩⟩)
  (hql:∀ r∈s.home.queue.rows,r.queue.length≤1000000) (hd:hz=true->lt=c.nodes∨∃ i:Nat,lt=(i:Int)/\i < p.ns.length/\lt≠c.nodes) (R:S.World×List Let×List S.Done) (hR:R=if hz then (if lt=c.nodes then ({ s with way:=netLeft s.way a2,home:=(s.home.take c ⟨lk,lf,lt,lb,lq,lw,lwr,⟨lc,lo,lh,ld⟩⟩ ⟨b2,c2,d2⟩).1 },(s.home.take c ⟨lk,lf,lt,lb,lq,lw,lwr,⟨lc,lo,lh,ld⟩⟩ ⟨b2,c2,d2⟩).2,[]) else ({ s with way:=netLeft s.way a2,nodes:=s.nodes.set lt.toNat ((s.nodes.getD lt.toNat (S.Node.new lt.toNat)).take c ⟨lk,lf,lt,lb,lq,lw,lwr,⟨lc,lo,lh,ld⟩⟩ ⟨b2,c2,d2⟩).1 },((s.nodes.getD lt.toNat (S.Node.new lt.toNat)).take c ⟨lk,lf,lt,lb,lq,lw,lwr,⟨lc,lo,lh,ld⟩⟩ ⟨b2,c2,d2⟩).2.letters,((s.nodes.getD lt.toNat (S.Node.new lt.toNat)).take c ⟨lk,lf,lt,lb,lq,lw,lwr,⟨lc,lo,lh,ld⟩⟩ ⟨b2,c2,d2⟩).2.done)) else ({ s with way:=netLeft s.way a2 },[],[]))
  (hlen:R.2.1.length≤1000/\R.2.2.length≤1000) :
  bB dA 30 #[bA (M ⟨b,0,U⟩),.agg #[V I k,V I a2,V I b2,V I c2,V I d2],bA (M ⟨q,0,U⟩)] w (WP (aA hz) c R.1 b p R.2.1 R.2.2 q K w):=by
 have HW:=AS hW
 have HQL:=AS hql
 have HLN:=AS hlen
 have HR:=AS hR
 have HD:=AS hd
 have hbl:=eB hW.1.1
 have HB0:=AS hW.1.2.1
 have NT:=AS (show ∀ W X,Below w.heap.size w W->Below W.heap.size W X->bB dA 57 _ X _ from fun W X h1 h2=>netTake_any a2 (hW.1.2.2.2.2.2.1.keep (F':=fun x=>x < w.heap.size/\K x=3) (pB (fun _=>False) (h1.trans (h2.mono h1.size))) (fun x hx hF=>⟨⟨hx,hF⟩,id⟩)))
 rw[hh,hg] at NT
 simp only[letV] at NT
 clear hW hql hlen hR hd hg
 have BX:=AS (nA w (O #[V I k,V I a2,V I b2,V I c2,V I d2] 33))
 have BE:=AS (eA (fA w.heap.size w) (O #[V I k,V I a2,V I b2,V I c2,V I d2] 33))
 have SZ:=AS (gB w (O #[V I k,V I a2,V I b2,V I c2,V I d2] 33))
 go_enter Tryz.func30,Tryz.ntmps30
 go_upto_region 1 with fail
 generalize w.alloc (O #[V I k,V I a2,V I b2,V I c2,V I d2] 33)=W at BX BE SZ ⊢
 have NT:=AS (fun X h=>NT.out W X BE.out h)
 have KEEP:=AS (show ∀ x,KS (fun y=>y < w.heap.size/\K y=3) W x->(x.cell? ⟨b,13,U⟩=M (bA (M ⟨p.y,0,U⟩))/\x.cell? ⟨w.heap.size,0,U⟩=M (V I k)/\x.cell? ⟨w.heap.size,1,U⟩=M (V I a2)/\x.cell? ⟨w.heap.size,2,U⟩=M (V I b2)/\x.cell? ⟨w.heap.size,3,U⟩=M (V I c2)/\x.cell? ⟨w.heap.size,4,U⟩=M (V I d2)) from fun x hx=>by
  have hb1:=hx.at_ (kA HW.out.1.1 BE.out) (fun h=>by have h2:=h.2;rw[HB0.out] at h2;omega)
  have hb2:=hx.at_ BX.out (fun h=>by have h2:=h.1;omega)
  exact⟨cw hb1 13,cw hb2 0,cw hb2 1,cw hb2 2,cw hb2 3,cw hb2 4⟩)
 have ZF:=AS (show ∀ (x:cA) (g:Nat),x.heap[g]?=M (O #[V I 0,V I 0,V I 0,V I 0,V I 0,V I 0,aA false,V I 0,aA false,aA false,V I 0] 47 (0,0))->(x.cell? ⟨g,0,U⟩=M (V I 0)/\x.cell? ⟨g,1,U⟩=M (V I 0)/\x.cell? ⟨g,2,U⟩=M (V I 0)/\x.cell? ⟨g,3,U⟩=M (V I 0)/\x.cell? ⟨g,4,U⟩=M (V I 0)/\x.cell? ⟨g,5,U⟩=M (V I 0)/\x.cell? ⟨g,6,U⟩=M (aA false)/\x.cell? ⟨g,7,U⟩=M (V I 0)/\x.cell? ⟨g,8,U⟩=M (aA false)/\x.cell? ⟨g,9,U⟩=M (aA false)/\x.cell? ⟨g,10,U⟩=M (V I 0)/\x.frozen? ⟨g,0,U⟩=false/\x.frozen? ⟨g,1,U⟩=false/\x.frozen? ⟨g,2,U⟩=false/\x.frozen? ⟨g,3,U⟩=false/\x.frozen? ⟨g,4,U⟩=false/\x.frozen? ⟨g,5,U⟩=false/\x.frozen? ⟨g,6,U⟩=false/\x.frozen? ⟨g,7,U⟩=false/\x.frozen? ⟨g,8,U⟩=false/\x.frozen? ⟨g,9,U⟩=false/\x.frozen? ⟨g,10,U⟩=false) from fun x g h=>⟨cw h 0,cw h 1,cw h 2,cw h 3,cw h 4,cw h 5,cw h 6,cw h 7,cw h 8,cw h 9,cw h 10,jA h 0,jA h 1,jA h 2,jA h 3,jA h 4,jA h 5,jA h 6,jA h 7,jA h 8,jA h 9,jA h 10⟩)
 obtain⟨e0_,e1_,e2_,e3_,e4_,e5_⟩:=KEEP.out W (qB _ _)
 go_cut [7,8] (fun v7 v8 wx=>(∃ g7 K2,v7=bA (M ⟨g7,0,U⟩)/\v8=aA hz/\wx.heap[g7]?=M (O #[V I lk,V I lf,V I lt,V I lb,V I lq,V I lw,aA lwr,V I lc,aA lo,aA lh,V I ld] 47 (0,0))/\w.heap.size < g7/\K2 g7=200/\(∀ x,x < w.heap.size->K2 x=K x)/\WA c { s with way:=netLeft s.way a2 } b p [] [] q K2 wx/\wx.heap[w.heap.size]?=M (O #[V I k,V I a2,V I b2,V I c2,V I d2] 33 (0,0))/\K2 w.heap.size=200/\KS (fun x=>K x≤101) w wx))
 case first =>
  go_region_held3 (fun x=>x.cell? ⟨b,13,U⟩=M (bA (M ⟨p.y,0,U⟩))/\x.cell? ⟨w.heap.size,0,U⟩=M (V I k)/\x.cell? ⟨w.heap.size,1,U⟩=M (V I a2)/\x.cell? ⟨w.heap.size,2,U⟩=M (V I b2)/\x.cell? ⟨w.heap.size,3,U⟩=M (V I c2)/\x.cell? ⟨w.heap.size,4,U⟩=M (V I d2)) ((refine KEEP.out _ ?_;(repeat (first | (with_reducible refine KS.set ?_ (.inr ?_) _ _;rotate_left;(focus (first | omega | (simp only[gB,iB];omega)))) | with_reducible refine kchain H1.out ?_ | with_reducible apply KS.alloc | with_reducible apply sB | with_reducible exact qB _ _)))) ((first | (go_at_call 57;refine(NT.out _ ?_).mono ?_;(focus ((repeat (with_reducible first | exact fA _ _ | apply eA | apply iA))));rintro e w1 ⟨rfl,hN,hk⟩;have hX:=hk.size;(first | rw[gB] at hX | rw[iB,gB] at hX);clear hX;have H1:=AS hk;have F1:=AS hN;clear hN hk;have QF:Aside0 (w1.heap[W.heap.size]?=M (O #[V I 0,V I 0,V I 0,V I 0,V I 0,V I 0,aA false,V I 0,aA false,aA false,V I 0] 47 (0,0))):=AS (zblkL H1.out (fun h=>by have h0:=h.1;have z0:=SZ.out;omega));obtain⟨q0_,q1_,q2_,q3_,q4_,q5_,q6_,q7_,q8_,q9_,q10_,q11_,q12_,q13_,q14_,q15_,q16_,q17_,q18_,q19_,q20_,q21_⟩:=ZF.out _ _ QF.out) | (go_at_call 57;refine(NT.out _ ?_).mono ?_;(focus ((repeat (with_reducible first | exact fA _ _ | apply eA | apply iA))));rintro e w1 ⟨rfl,hN,hk⟩;have hX:=hk.size;clear hX;have H1:=AS hk;have F1:=AS hN;clear hN hk)))
  ·go_wp2_with fail
   go_meet
   have s0:=SZ.out
   have s1:=H1.out.size
   simp only[gB,iB,sz_set] at s1
   obtain⟨K2,k1,k2,k3,k6⟩:=HW.out.netted (BE.out.trans (Below.mono (B:=W.heap.size) (by (repeat (with_reducible first | exact fA _ _ | apply eA | apply iA))) vB)) F1.out H1.out
   refine⟨w1.heap.size,rec_ K2 w1 200,rfl,rfl,?_,vB,?_,fun x hx=>(jB vB).trans (k1 x hx),k3.boxed (g:=w1.heap.size) ?_ (fun hx=>k2 _ vB (by (try simp only[gB,iB]);omega)),?_,?_,k6.trans (G:=fun y=>y=w1.heap.size) ?_ (fun x hx e=>?_)⟩
   ·apply blk_as
    ·(repeat (with_reducible first | apply mA | apply nA | exact QF.out))
    ·simp
   ·by_cases h:w1.heap.size < w1.heap.size
    ·rw[jB h];exact k2 _ vB (by (try simp only[gB,iB]);omega)
    ·exact rec_new vB
   ·(repeat (with_reducible first | refine tB ?_ _ _ | apply KS.alloc | apply sB | exact qB _ _))
   ·refine KS.at_ (F:=fun y=>y=w1.heap.size) (w:=w1) ?_ (H1.out.at_ (show(_:cA).heap[w.heap.size]?=_ from ?_) (fun h=>by have h0:=h.1;omega)) (fun e=>?_)
    ·(repeat (with_reducible first | refine tB ?_ _ _ | apply KS.alloc | apply sB | exact qB _ _))
    ·first | exact BX.out | exact fB BX.out | exact fB (lA BX.out _)
    ·have e':w.heap.size=w1.heap.size:=e
     omega
   ·rw[jB vB];exact k2 _ (pA _) (by (try simp only[gB,iB]);omega)
   ·(repeat (with_reducible first | refine tB ?_ _ _ | apply KS.alloc | apply sB | exact qB _ _))
   ·have e':x=w1.heap.size:=e
    omega
  ·go_wp2_with fail
   go_meet
   have s0:=SZ.out
   have s1:=H1.out.size
   simp only[gB,iB,sz_set] at s1
   obtain⟨K2,k1,k2,k3,k6⟩:=HW.out.netted (BE.out.trans (Below.mono (B:=W.heap.size) (by (repeat (with_reducible first | exact fA _ _ | apply eA | apply iA))) vB)) F1.out H1.out
   refine⟨W.heap.size,rec_ K2 w1 200,rfl,rfl,?_,vB,?_,fun x hx=>(jB vB).trans (k1 x hx),k3.boxed (g:=W.heap.size) ?_ (fun hx=>k2 _ vB (by (try simp only[gB,iB]);omega)),?_,?_,k6.trans (G:=fun y=>y=W.heap.size) ?_ (fun x hx e=>?_)⟩
   ·apply blk_as
    ·(repeat (with_reducible first | apply mA | apply nA | exact QF.out))
    ·simp
   ·by_cases h:W.heap.size < w1.heap.size
    ·rw[jB h];exact k2 _ vB (by (try simp only[gB,iB]);omega)
    ·exact rec_new vB
   ·(repeat (with_reducible first | refine tB ?_ _ _ | apply KS.alloc | apply sB | exact qB _ _))
   ·refine KS.at_ (F:=fun y=>y=W.heap.size) (w:=w1) ?_ (H1.out.at_ (show(_:cA).heap[w.heap.size]?=_ from ?_) (fun h=>by have h0:=h.1;omega)) (fun e=>?_)
    ·(repeat (with_reducible first | refine tB ?_ _ _ | apply KS.alloc | apply sB | exact qB _ _))
    ·first | exact BX.out | exact fB BX.out | exact fB (lA BX.out _)
    ·have e':w.heap.size=W.heap.size:=e
     omega
   ·rw[jB vB];exact k2 _ (pA _) (by (try simp only[gB,iB]);omega)
   ·(repeat (with_reducible first | refine tB ?_ _ _ | apply KS.alloc | apply sB | exact qB _ _))
   ·have e':x=W.heap.size:=e
    omega
 case rest =>
  obtain⟨g7,K2,rfl,rfl,hL,hg7,hK7,hK2,hWA,hE,hKE,hks⟩:=hcut
  clear e0_ e1_ e2_ e3_ e4_ e5_
  have LX:=AS hL
  have EX:=AS hE
  have WX:=AS hWA
  have KX:=AS (qA hK2 (qA hks (qA hK7 hKE)))
  have E0:=hWA.1.1
  clear hL hE hWA hK2 hks hK7 hKE
  cases hz with
  | false =>
   have hr:=HR.out
   simp only[vA,if_false] at hr
   clear E0
   go_wp2
   go_ret
   rw[hr]
   exact⟨rfl,K2,KX.out.1,WX.out,KX.out.2.1⟩
  | true =>
   have hr0:=HR.out
   simp only[if_true] at hr0
   have f2:=cw LX.out 2 (v:=V I lt)
   have f0:=cw E0 0 (v:=V I c.nodes)
   clear E0
   by_cases hto:lt=c.nodes
   ·have hd1:(lt == c.nodes)=true:=by simp[hto]
    have hr:=hr0.trans (if_pos hto)
    clear hr0 HD
    have HRR:=AS hr
    have HTO:=AS hto
    clear hto hr
    go_wp2_with fail
    go_quiet (fail)
    go_upto_region 6 with fail
    have LY:=AS (blk_drewN LX.out nq)
    have EY:=AS (blk_drewN EX.out nq)
    have WY:=AS (WX.out.keep (K':=K2) (w':=wc.drewN nq) (pB (fun _=>False) (bdN wc nq)) (fun x _ _=>⟨rfl,id⟩))
    have KY:=AS (show(∀ x,x < w.heap.size->K2 x=K x)/\KS (fun x=>K x≤101) w (wc.drewN nq)/\K2 g7=200/\K2 w.heap.size=200 from⟨KX.out.1,KX.out.2.1.andBelow (bdN wc nq),KX.out.2.2⟩)
    have hlt1:=eB LX.out
    clear f2 f0 LX EX WX KX
    generalize wc.drewN nq=wd at LY EY WY KY ⊢
    have hlg:=eB LY.out
    have hle:=eB EY.out
    have HT:=AS (show ∀ X,Below wd.heap.size wd X->bB dA 58 _ X _ from fun X h=>homeTake_at (WY.out.1.2.2.2.2.1.keep (F':=fun x=>x < wd.heap.size/\K2 x=2) (pB (fun _=>False) h) (fun x hx hF=>⟨⟨hx,hF⟩,id⟩)) HQL.out ⟨lk,lf,lt,lb,lq,lw,lwr,⟨lc,lo,lh,ld⟩⟩ ⟨b2,c2,d2⟩)
    have DR:=AS (fun X=>draws_any k a2 b2 c2 d2 X)
    simp only[letV,drwV] at HT DR
    have HRR:=HRR
    generalize (Home.take c s.home ⟨lk,lf,lt,lb,lq,lw,lwr,⟨lc,lo,lh,ld⟩⟩ ⟨b2,c2,d2⟩)=R2 at HT HRR
    obtain⟨h',ls'⟩:=R2
    have KEEP:=AS (show ∀ x,KS (fun y=>(y < wd.heap.size/\K2 y=2)∨y=q) wd x->(x.cell? ⟨b,12,U⟩=M (bA (M ⟨p.h,0,U⟩))/\x.cell? ⟨g7,0,U⟩=M (V I lk)/\x.cell? ⟨g7,1,U⟩=M (V I lf)/\x.cell? ⟨g7,2,U⟩=M (V I lt)/\x.cell? ⟨g7,3,U⟩=M (V I lb)/\x.cell? ⟨g7,4,U⟩=M (V I lq)/\x.cell? ⟨g7,5,U⟩=M (V I lw)/\x.cell? ⟨g7,6,U⟩=M (aA lwr)/\x.cell? ⟨g7,7,U⟩=M (V I lc)/\x.cell? ⟨g7,8,U⟩=M (aA lo)/\x.cell? ⟨g7,9,U⟩=M (aA lh)/\x.cell? ⟨g7,10,U⟩=M (V I ld)/\x.cell? ⟨w.heap.size,0,U⟩=M (V I k)/\x.cell? ⟨w.heap.size,1,U⟩=M (V I a2)/\x.cell? ⟨w.heap.size,2,U⟩=M (V I b2)/\x.cell? ⟨w.heap.size,3,U⟩=M (V I c2)/\x.cell? ⟨w.heap.size,4,U⟩=M (V I d2)) from fun x hx=>by
     have hne:∀ y,K2 y=200∨K2 y=0->¬ ((y < wd.heap.size/\K2 y=2)∨y=q):=fun y hy h=>by
      have hq:=WY.out.2
      obtain⟨vl,vd,-,-,-,-,-,-,hq7,-⟩:=hq
      rcases h with h | h
      ·omega
      ·rw[h,hq7] at hy;omega
     have hb1:=hx.at_ WY.out.1.1 (hne _ (.inr WY.out.1.2.1))
     have hb2:=hx.at_ LY.out (hne _ (.inl KY.out.2.2.1))
     have hb3:=hx.at_ EY.out (hne _ (.inl KY.out.2.2.2))
     exact⟨cw hb1 12,cw hb2 0,cw hb2 1,cw hb2 2,cw hb2 3,cw hb2 4,cw hb2 5,cw hb2 6,cw hb2 7,cw hb2 8,cw hb2 9,cw hb2 10,cw hb3 0,cw hb3 1,cw hb3 2,cw hb3 3,cw hb3 4⟩)
    have hqd:=WY.out.2
    obtain⟨vl,vd,hq1,-,-,-,-,-,hq7,-⟩:=hqd
    have QB:=AS hq1
    have Q7:=AS hq7
    clear hq1 hq7
    obtain⟨e0_,e1_,e2_,e3_,e4_,e5_,e6_,e7_,e8_,e9_,e10_,e11_,e12_,e13_,e14_,e15_,e16_⟩:=KEEP.out wd (qB _ _)
    go_region_held3 (fun x=>x.cell? ⟨b,12,U⟩=M (bA (M ⟨p.h,0,U⟩))/\x.cell? ⟨g7,0,U⟩=M (V I lk)/\x.cell? ⟨g7,1,U⟩=M (V I lf)/\x.cell? ⟨g7,2,U⟩=M (V I lt)/\x.cell? ⟨g7,3,U⟩=M (V I lb)/\x.cell? ⟨g7,4,U⟩=M (V I lq)/\x.cell? ⟨g7,5,U⟩=M (V I lw)/\x.cell? ⟨g7,6,U⟩=M (aA lwr)/\x.cell? ⟨g7,7,U⟩=M (V I lc)/\x.cell? ⟨g7,8,U⟩=M (aA lo)/\x.cell? ⟨g7,9,U⟩=M (aA lh)/\x.cell? ⟨g7,10,U⟩=M (V I ld)/\x.cell? ⟨w.heap.size,0,U⟩=M (V I k)/\x.cell? ⟨w.heap.size,1,U⟩=M (V I a2)/\x.cell? ⟨w.heap.size,2,U⟩=M (V I b2)/\x.cell? ⟨w.heap.size,3,U⟩=M (V I c2)/\x.cell? ⟨w.heap.size,4,U⟩=M (V I d2)) ((refine KEEP.out _ ?_;(repeat (first | (with_reducible refine KS.set ?_ (.inl (.inr rfl)) _ _) | with_reducible refine kchainL H2.out ?_ | with_reducible refine KS.andBelow ?_ H1.out | with_reducible apply KS.alloc | with_reducible apply sB | with_reducible exact qB _ _)))) ((first | (go_at_call 59;refine(DR.out _).mono ?_;rintro e w1 ⟨rfl,hb⟩;have H1:=AS hb;clear hb) | (go_at_call 58;refine(HT.out _ ?_).mono ?_;(focus ((repeat (with_reducible first | refine bchain H1.out ?_ | apply eA | apply iA | exact fA _ _))));rintro e w2 ⟨A1,cc1,G,rfl,hN,hG,ho,hf,hk⟩;have H2:=AS hk;have F2:=AS (qA hN (qA hG (qA ho hf)));clear hN hG ho hf hk;have Q2:=AS (H2.out.at_ (kA QB.out (show Below wd.heap.size wd w1 from(iA (fA _ _)).trans H1.out)) (fun h=>by have h0:=h.2;rw[Q7.out] at h0;omega));have y0_:w2.cell? ⟨q,0,U⟩=M vl:=cw Q2.out 0;have y1_:=jA Q2.out 0)))
    all_goals
     have FF:=AS (show ∃ K3,(∀ x,x < wd.heap.size->K3 x=K2 x)/\WA c { s with way:=netLeft s.way a2,home:=h' } b p [] [] q K3 w2/\(∀ x∈foot (J A1 ls'.length cc1),K3 x=200/\wd.heap.size≤x)/\KS (fun x=>K2 x≤101) wd w2 from by
      obtain⟨hN,hG,ho,hf⟩:=F2.out
      have hs1':wd.heap.size≤w1.heap.size:=H1.out.size
      obtain⟨K3,k1,k2,k3,k4,k5⟩:=WY.out.homed (v1:=J A1 ls'.length cc1) (show Below wd.heap.size wd w1 from(iA (fA _ _)).trans H1.out) hN hG hf H2.out
      exact⟨K3,k1,k3,fun x hx=>⟨k4 x hx,by have:=(hf x hx).1;omega⟩,k5⟩)
     clear e0_ e1_ e2_ e3_ e4_ e5_ e6_ e7_ e8_ e9_ e10_ e11_ e12_ e13_ e14_ e15_ e16_
     go_wp2
     go_ret
     obtain⟨K3,k1,k3,k4,k5⟩:=FF.out
     obtain⟨K4,a1,a2⟩:=k3.sent F2.out.2.2.1 (fun x hx=>(k4 x hx).1)
     obtain⟨y1,y2,-⟩:=KY.out
     have hs:=y2.size
     rw[HRR.out]
     refine⟨rfl,K4,fun x hx=>(a1 x (fun h=>by have:=(k4 x h).2;omega)).trans ((k1 x vB).trans (y1 x hx)),a2,?_⟩
     have hkk:=y2.trans k5 (fun x hx h=>by have h':K2 x≤101:=h;rw[y1 x hx] at h';exact h')
     refine KS.set (F:=fun x=>K x≤101) hkk (g:=q) ?_ 0 _
     by_cases hqs:q < w.heap.size
     ·refine .inl ?_
      have:=Q7.out
      rw[y1 q hqs] at this
      show K q≤101
      omega
     ·exact .inr vB
   ·obtain⟨i,hli,hip,-⟩:=(HD.out rfl).resolve_left hto
    have hd1:(lt == c.nodes)=false:=by simp[hto]
    have hr:=hr0.trans (if_neg hto)
    subst hli
    clear hr0 HD hto
    have HRR:=AS hr
    clear hr
    go_wp2_with fail
    go_quiet (fail)
    go_upto_region 2 with fail
    have LY:=AS (blk_drewN LX.out nq)
    have EY:=AS (blk_drewN EX.out nq)
    have WY:=AS (WX.out.keep (K':=K2) (w':=wc.drewN nq) (pB (fun _=>False) (bdN wc nq)) (fun x _ _=>⟨rfl,id⟩))
    have KY:=AS (show(∀ x,x < w.heap.size->K2 x=K x)/\KS (fun x=>K x≤101) w (wc.drewN nq)/\K2 g7=200/\K2 w.heap.size=200 from⟨KX.out.1,KX.out.2.1.andBelow (bdN wc nq),KX.out.2.2⟩)
    have hlt1:=eB LX.out
    clear f2 f0 LX EX WX KX
    generalize wc.drewN nq=wd at LY EY WY KY ⊢
    have hlg:=eB LY.out
    have hle:=eB EY.out
    obtain⟨g,hgA,hgi⟩:=WY.out.1.ptr hip
    have i0:(0:Int)≤(i:Int):=vB
    have i1:(i:Int) < (p.ns.length:Int):=vB
    have hgK:K2 g=1:=WY.out.1.2.2.2.1 g (by unfold WPt.v;rw[hgA];simp[foot_slice])
    have HGK:=AS hgK
    have HGA:=AS hgA
    have GI:=AS hgi
    have HIP:=AS hip
    have HN:=AS (show NodeAt c (s.nodes.getD i (S.Node.new i)) (p.ns.getD i 0) (fun x=>K2 x=4+i) wd from WY.out.1.2.2.2.2.2.2.2.2 i hip)
    clear hgK hgA hgi hip
    have IS:=AS (show ∀ X,Below wd.heap.size wd X->bB dA 60 _ X _ from fun X h=>nodeTake_at (HN.out.keep (F':=fun x=>x < wd.heap.size/\K2 x=4+i) (pB (fun _=>False) h) (fun x hx hF=>⟨⟨hx,hF⟩,id⟩)) ⟨lk,lf,(i:Int),lb,lq,lw,lwr,⟨lc,lo,lh,ld⟩⟩ ⟨b2,c2,d2⟩)
    have DR:=AS (fun X=>draws_any k a2 b2 c2 d2 X)
    simp only[letV,drwV] at IS DR
    have HLN2:=HLN.out
    rw[HRR.out] at HLN2
    simp only[Int.toNat_natCast] at HLN2
    have HRQ:=AS (show R=({ s with way:=netLeft s.way a2,nodes:=s.nodes.set i ((s.nodes.getD i (S.Node.new i)).take c ⟨lk,lf,(i:Int),lb,lq,lw,lwr,⟨lc,lo,lh,ld⟩⟩ ⟨b2,c2,d2⟩).1 },((s.nodes.getD i (S.Node.new i)).take c ⟨lk,lf,(i:Int),lb,lq,lw,lwr,⟨lc,lo,lh,ld⟩⟩ ⟨b2,c2,d2⟩).2.letters,((s.nodes.getD i (S.Node.new i)).take c ⟨lk,lf,(i:Int),lb,lq,lw,lwr,⟨lc,lo,lh,ld⟩⟩ ⟨b2,c2,d2⟩).2.done) from by have:=HRR.out;simpa only[Int.toNat_natCast] using this)
    clear HRR
    generalize ((s.nodes.getD i (S.Node.new i)).take c ⟨lk,lf,(i:Int),lb,lq,lw,lwr,⟨lc,lo,lh,ld⟩⟩ ⟨b2,c2,d2⟩)=R2 at IS HRQ HLN2
    obtain⟨n',o⟩:=R2
    have HL2:=AS HLN2
    clear HLN2
    generalize hni:p.ns.getD i 0=ni at *
    have HNI:=AS hni
    clear hni
    have KEEP:=AS (show ∀ x,KS (fun y=>y < wd.heap.size/\(K2 y=4+i∨K2 y=101)) wd x->(x.cell? ⟨b,11,U⟩=M (J (M ⟨g,0,U⟩) p.ns.length p.cp)/\x.cell? ⟨g,i,U⟩=M (bA (M ⟨ni,0,U⟩))/\x.cell? ⟨g7,0,U⟩=M (V I lk)/\x.cell? ⟨g7,1,U⟩=M (V I lf)/\x.cell? ⟨g7,2,U⟩=M (V I (i:Int))/\x.cell? ⟨g7,3,U⟩=M (V I lb)/\x.cell? ⟨g7,4,U⟩=M (V I lq)/\x.cell? ⟨g7,5,U⟩=M (V I lw)/\x.cell? ⟨g7,6,U⟩=M (aA lwr)/\x.cell? ⟨g7,7,U⟩=M (V I lc)/\x.cell? ⟨g7,8,U⟩=M (aA lo)/\x.cell? ⟨g7,9,U⟩=M (aA lh)/\x.cell? ⟨g7,10,U⟩=M (V I ld)/\x.cell? ⟨w.heap.size,0,U⟩=M (V I k)/\x.cell? ⟨w.heap.size,1,U⟩=M (V I a2)/\x.cell? ⟨w.heap.size,2,U⟩=M (V I b2)/\x.cell? ⟨w.heap.size,3,U⟩=M (V I c2)/\x.cell? ⟨w.heap.size,4,U⟩=M (V I d2)) from fun x hx=>by
     have hne:∀ y,K2 y=200∨K2 y=0∨K2 y=1->¬ (y < wd.heap.size/\(K2 y=4+i∨K2 y=101)):=fun y hy h=>by
      have h64:=WY.out.1.2.2.2.2.2.2.2.1
      have:=HIP.out
      omega
     have hb1:=hx.at_ WY.out.1.1 (hne _ (.inr (.inl WY.out.1.2.1)))
     have hb2:=hx.at_ LY.out (hne _ (.inl KY.out.2.2.1))
     have hb3:=hx.at_ EY.out (hne _ (.inl KY.out.2.2.2))
     have hr:x.cell? ⟨g,i,U⟩=M (bA (M ⟨ni,0,U⟩)):=by
      rw[ks_cell hx (World.block_lt_of_cell? wd _ GI.out) (hne _ (.inr (.inr HGK.out)))]
      exact GI.out
     refine⟨(oB hb1 11).trans ?_,hr,cw hb2 0,cw hb2 1,cw hb2 2,cw hb2 3,cw hb2 4,cw hb2 5,cw hb2 6,cw hb2 7,cw hb2 8,cw hb2 9,cw hb2 10,cw hb3 0,cw hb3 1,cw hb3 2,cw hb3 3,cw hb3 4⟩
     unfold wldC;rw[HGA.out];rfl)
    obtain⟨e0_,e1_,e2_,e3_,e4_,e5_,e6_,e7_,e8_,e9_,e10_,e11_,e12_,e13_,e14_,e15_,e16_,e17_⟩:=KEEP.out wd (qB _ _)
    go_region_held3 (fun x=>x.cell? ⟨b,11,U⟩=M (J (M ⟨g,0,U⟩) p.ns.length p.cp)/\x.cell? ⟨g,i,U⟩=M (bA (M ⟨ni,0,U⟩))/\x.cell? ⟨g7,0,U⟩=M (V I lk)/\x.cell? ⟨g7,1,U⟩=M (V I lf)/\x.cell? ⟨g7,2,U⟩=M (V I (i:Int))/\x.cell? ⟨g7,3,U⟩=M (V I lb)/\x.cell? ⟨g7,4,U⟩=M (V I lq)/\x.cell? ⟨g7,5,U⟩=M (V I lw)/\x.cell? ⟨g7,6,U⟩=M (aA lwr)/\x.cell? ⟨g7,7,U⟩=M (V I lc)/\x.cell? ⟨g7,8,U⟩=M (aA lo)/\x.cell? ⟨g7,9,U⟩=M (aA lh)/\x.cell? ⟨g7,10,U⟩=M (V I ld)/\x.cell? ⟨w.heap.size,0,U⟩=M (V I k)/\x.cell? ⟨w.heap.size,1,U⟩=M (V I a2)/\x.cell? ⟨w.heap.size,2,U⟩=M (V I b2)/\x.cell? ⟨w.heap.size,3,U⟩=M (V I c2)/\x.cell? ⟨w.heap.size,4,U⟩=M (V I d2)) ((refine KEEP.out _ ?_;(repeat (with_reducible first | exact N3.out | refine KS.trans ?_ H2.out HX2.out | refine KS.andBelow ?_ H1.out | apply KS.alloc | apply sB | exact qB _ _)))) ((first | (go_at_call 59;refine(DR.out _).mono ?_;rintro e w1 ⟨rfl,hb⟩;have H1:=AS hb;clear hb) | (go_at_call 60;refine(IS.out _ ?_).mono ?_;(focus ((repeat (with_reducible first | refine bchain H1.out ?_ | apply eA | apply iA | exact fA _ _))));rintro e w2 ⟨A1,cc1,A2,cc2,G,rfl,hN,hG,ho1,ho2,hf1,hf2,hk⟩;have HX2:=AS (show ∀ x,x < wd.heap.size->(x < wd.heap.size/\K2 x=4+i)->(x < wd.heap.size/\(K2 x=4+i∨K2 x=101)) from fun x _ h=>⟨h.1,.inl h.2⟩);have hbX:Below wd.heap.size wd w1:=(iA (fA _ _)).trans H1.out;rw[<- HNI.out] at hN;have hcl:=WY.out.called (v1:=J A1 o.letters.length cc1) (v2:=J A2 o.done.length cc2) hbX HIP.out hN hG hf1 hf2 hk;have HC:=AS hcl;clear hcl;have AD:=AS (show ∃ K3,((∀ x,x < wd.heap.size->K3 x=K2 x)/\KS (fun x=>K2 x≤101) wd w2/\WldK c _ b p K3 w2)/\bB dA 56 _ w2 _ from(by obtain⟨K3,k1,-,k3,k4,k5,k6⟩:=HC.out;exact⟨K3,⟨k1,k6,k3.1⟩,add_any k3.2 ho1 ho2 (fun x hx=>by rw[k5 x hx];decide) (by have h:o.letters.length≤1000:=HL2.out.1;simp only[List.length_nil];omega) (by have h:o.done.length≤1000:=HL2.out.2;simp only[List.length_nil];omega)⟩));have H2:=AS hk;clear hN hG ho1 ho2 hf1 hf2 hk hbX) | (go_at_call 56;have hAD:=AD.out;obtain⟨K3,k1,hC⟩:=hAD;refine hC.mono ?_;rintro e w3 ⟨rfl,h3,hk3⟩;have X3:=AS h3;have F2:=AS k1;have HK3:=AS hk3;have N3:=AS (show KS (fun y=>y < wd.heap.size/\(K2 y=4+i∨K2 y=101)) wd w3 from(KS.trans (pB _ ((iA (fA _ _)).trans H1.out)) H2.out HX2.out).trans hk3 (fun x hx h=>⟨hx,.inr (by have h':K3 x=101:=h;rw[k1.1 x hx] at h';exact h')⟩));clear h3 k1 hC hk3)))
    all_goals
     clear e0_ e1_ e2_ e3_ e4_ e5_ e6_ e7_ e8_ e9_ e10_ e11_ e12_ e13_ e14_ e15_ e16_ e17_
     go_wp2
     go_ret
     obtain⟨k1,k2,kW⟩:=F2.out
     obtain⟨y1,y2,-⟩:=KY.out
     have hs:=y2.size
     have hs2:=k2.size
     rw[HRQ.out]
     have a2:=X3.out
     simp only[List.nil_append] at a2
     refine⟨rfl,rec_ K3 w2 101,fun x hx=>(jB vB).trans ((k1 x vB).trans (y1 x hx)),⟨kW.keep HK3.out (fun x hx h=>⟨jB hx,by show ¬ K3 x=101;omega⟩),a2⟩,(y2.trans k2 (fun x hx h=>by have h':K2 x≤101:=h;rw[y1 x hx] at h';exact h')).trans HK3.out (fun x hx h=>by have h':K3 x=101:=h;rw[k1 x vB,y1 x hx] at h';show K x≤101;omega)⟩
end Go.Proofs.YtiebppkhaiofeaaGreat.K
