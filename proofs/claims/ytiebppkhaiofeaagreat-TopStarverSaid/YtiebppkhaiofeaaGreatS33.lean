/- Part of the proof of TopStarver: what functions of the program do. -/
import Derived.Test.YtiebppkhaiofeaaGreatS32
set_option maxHeartbeats 4000000
set_option maxRecDepth 100000
set_option linter.unusedVariables false
set_option linter.unusedSimpArgs false
namespace Go.Proofs.YtiebppkhaiofeaaGreat.K
open Go.RowKit Go.Proofs.YtiebppkhaiofeaaGreatW.PrintWords Go.Proofs.YtiebppkhaiofeaaGreat.S
attribute [local go_sem] World.cell?_alloc_some
open Go.ChangeMaps Go.MapKept
def PlaceV (n:S.Node) (vl va:Value) (B:Nat) (w':Go.World):Prop :=
 (∃ ks:List Int,ks.Nodup/\(∀ k,n.lines.rows k≠[]->k∈ks)/\OwnE lineE vl (((ks.flatMap n.lines.rows).mergeSort fun x y=>decide (x≤y)).map fun x=>⟨x,n.lines.tok x⟩) w') /\
 (∃ L:List Int,L.Nodup/\(∀ k,k∈L↔(n.know.act k).isSome)/\OwnE actE va (L.map (Table.actOf n.know)) w')/\(∀ x∈foot vl,B≤x)/\∀ x∈foot va,B≤x
theorem PlaceV.below {n:S.Node} {vl va:Value} {B:Nat} {w w':Go.World} (h:PlaceV n vl va B w) (hb:Below w.heap.size w w'):PlaceV n vl va B w':=by
 obtain⟨⟨ks,k1,k2,k3⟩,⟨L,l1,l2,l3⟩,h3,h4⟩:=h
 exact⟨⟨ks,k1,k2,k3.ks (KS.below (fun _=>False) hb) (fun _ _=>id)⟩,⟨L,l1,l2,l3.ks (KS.below (fun _=>False) hb) (fun _ _=>id)⟩,h3,h4⟩
def placeV (n:S.Node) (vl va:Value):Value:=.agg #[vl,.bool n.cpu.busy,.int .i64 n.cpu.op.block,.bool n.cpu.op.write,.int .i64 n.cpu.op.value,va]
def LinesV (n:S.Node) (vl:Value) (B:Nat) (w':Go.World):Prop:=(∃ ks:List Int,ks.Nodup/\(∀ k,n.lines.rows k≠[]->k∈ks)/\OwnE lineE vl (((ks.flatMap n.lines.rows).mergeSort fun x y=>decide (x≤y)).map fun x=>⟨x,n.lines.tok x⟩) w')/\∀ x∈foot vl,B≤x
def ActsV (n:S.Node) (va:Value) (B:Nat) (w':Go.World):Prop:=(∃ L:List Int,L.Nodup/\(∀ k,k∈L↔(n.know.act k).isSome)/\OwnE actE va (L.map (Table.actOf n.know)) w')/\∀ x∈foot va,B≤x
theorem all_lays {c:Cfg} {n:S.Node} {b:Nat} {F:Set_} {w X:Go.World} (h:CacAt c n.lines b F w) (hn:∀ ks:List Int,ks.Nodup->(ks.flatMap n.lines.rows).length≤1000000) (hb:Below w.heap.size w X):Calls Tryz.prog 67 #[.pointer (some ⟨b,0,none⟩)] X fun e w'=>∃ A m cp,e=.returned (.slice A m cp)/\Lays (fun F w=>LinesV n (.slice A m cp) w.heap.size w->LinesV n (.slice A m cp) w.heap.size w) X w'/\LinesV n (.slice A m cp) X.heap.size w':=by
 refine(cacAll_any (h.keep (KS.below (fun _=>False) hb) (fun x _ hF=>⟨hF,id⟩)) hn).mono ?_
 rintro e w' ⟨A,m,cp,ks,he,h1,h2,h3,h4,h5⟩
 exact⟨A,m,cp,he,⟨id,h5⟩,⟨ks,h1,h2,h3⟩,h4⟩
theorem list_lays {n:S.Node} {b:Nat} {F:Set_} {w X:Go.World} (h:TabAt n.know b F w) (hw:∀ k,(n.know.act k).isSome->0≤k/\k < 64) (hb:Below w.heap.size w X):Calls Tryz.prog 68 #[.pointer (some ⟨b,0,none⟩)] X fun e w'=>∃ A m cp,e=.returned (.slice A m cp)/\Lays (fun F w=>ActsV n (.slice A m cp) w.heap.size w->ActsV n (.slice A m cp) w.heap.size w) X w'/\ActsV n (.slice A m cp) X.heap.size w':=by
 refine(tabList_any (h.keep (KS.below (fun _=>False) hb) (fun x _ hF=>⟨hF,id⟩)) hw).mono ?_
 rintro e w' ⟨A,m,cp,L,he,h1,h2,h3,h4,h5⟩
 exact⟨A,m,cp,he,⟨id,h5⟩,⟨L,h1,h2,h3⟩,h4⟩
theorem LinesV.below {n:S.Node} {v:Value} {B B':Nat} {w w':Go.World} (h:LinesV n v B w) (hb:Below w.heap.size w w') (hB:B'≤B):LinesV n v B' w':=⟨h.1.imp fun ks k=>⟨k.1,k.2.1,k.2.2.ks (KS.below (fun _=>False) hb) (fun _ _=>id)⟩,fun x hx=>Nat.le_trans hB (h.2 x hx)⟩
theorem ActsV.below {n:S.Node} {v:Value} {B B':Nat} {w w':Go.World} (h:ActsV n v B w) (hb:Below w.heap.size w w') (hB:B'≤B):ActsV n v B' w':=⟨h.1.imp fun ks k=>⟨k.1,k.2.1,k.2.2.ks (KS.below (fun _=>False) hb) (fun _ _=>id)⟩,fun x hx=>Nat.le_trans hB (h.2 x hx)⟩
theorem LinesV.lt {n:S.Node} {v:Value} {B:Nat} {w:Go.World} (h:LinesV n v B w):∀ x∈foot v,x < w.heap.size:=by
 obtain⟨⟨ks,-,-,k3⟩,-⟩:=h
 exact k3.lt
theorem LinesV.ks {n:S.Node} {v:Value} {B B' q:Nat} {w w':Go.World} (h:LinesV n v B w) (hk:KS (fun y=>y=q) w w') (hB:B'≤B) (hq:∀ x∈foot v,x≠q):LinesV n v B' w':=⟨h.1.imp fun ks k=>⟨k.1,k.2.1,k.2.2.ks hk hq⟩,fun x hx=>Nat.le_trans hB (h.2 x hx)⟩
theorem ActsV.lt {n:S.Node} {v:Value} {B:Nat} {w:Go.World} (h:ActsV n v B w):∀ x∈foot v,x < w.heap.size:=by
 obtain⟨⟨ks,-,-,k3⟩,-⟩:=h
 exact k3.lt
theorem ActsV.ks {n:S.Node} {v:Value} {B B' q:Nat} {w w':Go.World} (h:ActsV n v B w) (hk:KS (fun y=>y=q) w w') (hB:B'≤B) (hq:∀ x∈foot v,x≠q):ActsV n v B' w':=⟨h.1.imp fun ks k=>⟨k.1,k.2.1,k.2.2.ks hk hq⟩,fun x hx=>Nat.le_trans hB (h.2 x hx)⟩
theorem zblk {P:Set_->Go.World->Prop} {Y F:Go.World} (hl:Lays P (Y.alloc (.cells #[.slice none 0 0,.bool false,.int .i64 0,.bool false,.int .i64 0,.slice none 0 0] 53)) F):F.heap[Y.heap.size]?=some (.cells #[.slice none 0 0,.bool false,.int .i64 0,.bool false,.int .i64 0,.slice none 0 0] 53 (0,0)):=Lays.blk hl (blk_new Y _)
theorem zblkD {P:Set_->Go.World->Prop} {Y F:Go.World} (hl:Lays P (Y.alloc (.cells #[.slice none 0 0,.bool false,.int .i64 0,.bool false,.int .i64 0,.slice none 0 0] 53)).drew F):F.heap[Y.heap.size]?=some (.cells #[.slice none 0 0,.bool false,.int .i64 0,.bool false,.int .i64 0,.slice none 0 0] 53 (0,0)):=Lays.blk hl (blk_drew (blk_new Y _))
theorem nodePlace_any {c:Cfg} {n:S.Node} {b:Nat} {F:Set_} {w:Go.World} (hN:NodeAt c n b F w) (hw:∀ k,(n.know.act k).isSome->0≤k/\k < 64) (hn:∀ ks:List Int,ks.Nodup->(ks.flatMap n.lines.rows).length≤1000000):Calls Tryz.prog 38 #[.pointer (some ⟨b,0,none⟩)] w fun e w'=>∃ vl va,e=.returned (placeV n vl va)/\LinesV n vl w.heap.size w'/\ActsV n va w.heap.size w'/\Below w.heap.size w w':=by
 obtain⟨p,K,rfl,hK,-⟩:=hN
 have CA:=AS (fun X hb=>all_lays (X:=X) hK.2.2.1.at_ hn hb)
 have TA:=AS (fun X hb=>list_lays (X:=X) hK.2.2.2.1 hw hb)
 have PA:=AS (fun X (hb:Below w.heap.size w X)=>pending_any (show ProcAt c n.cpu p.bp X from blk_below hK.2.2.2.2.1 hb))
 have HB:=AS (show w.heap[p.b]?=some (.cells (nodeC c n p) 133 (0,0)) from hK.1)
 clear hK hw hn
 have KEEP:=AS (show ∀ x,Below w.heap.size w x->(x.cell? ⟨p.b,10,none⟩=some (.pointer (some ⟨p.bc,0,none⟩))/\x.cell? ⟨p.b,11,none⟩=some (.pointer (some ⟨p.bt,0,none⟩))/\x.cell? ⟨p.b,12,none⟩=some (.pointer (some ⟨p.bp,0,none⟩))) from fun x hx=>by have h11:=blk_below HB.out hx;exact⟨cw h11 10,cw h11 11,cw h11 12⟩)
 have ZF:=AS (show ∀ (x:Go.World) (g:Nat),x.heap[g]?=some (.cells #[.slice none 0 0,.bool false,.int .i64 0,.bool false,.int .i64 0,.slice none 0 0] 53 (0,0))->(x.cell? ⟨g,0,none⟩=some (.slice none 0 0)/\x.cell? ⟨g,1,none⟩=some (.bool false)/\x.cell? ⟨g,2,none⟩=some (.int .i64 0)/\x.cell? ⟨g,3,none⟩=some (.bool false)/\x.cell? ⟨g,4,none⟩=some (.int .i64 0)/\x.cell? ⟨g,5,none⟩=some (.slice none 0 0)/\x.frozen? ⟨g,0,none⟩=false/\x.frozen? ⟨g,1,none⟩=false/\x.frozen? ⟨g,2,none⟩=false/\x.frozen? ⟨g,3,none⟩=false/\x.frozen? ⟨g,4,none⟩=false/\x.frozen? ⟨g,5,none⟩=false) from fun x g h=>⟨cw h 0,cw h 1,cw h 2,cw h 3,cw h 4,cw h 5,blk_frozen h 0,blk_frozen h 1,blk_frozen h 2,blk_frozen h 3,blk_frozen h 4,blk_frozen h 5⟩)
 go_enter Tryz.func38,Tryz.ntmps38
 go_upto_region 1 with fail
 have BX:=AS (blk_new w (.cells #[.slice none 0 0,.bool false,.int .i64 0,.bool false,.int .i64 0,.slice none 0 0] 53))
 have BE:=AS (below_alloc (Below.refl w.heap.size w) (.cells #[.slice none 0 0,.bool false,.int .i64 0,.bool false,.int .i64 0,.slice none 0 0] 53))
 have SZ:=AS (sz_alloc w (.cells #[.slice none 0 0,.bool false,.int .i64 0,.bool false,.int .i64 0,.slice none 0 0] 53))
 generalize w.alloc (.cells #[.slice none 0 0,.bool false,.int .i64 0,.bool false,.int .i64 0,.slice none 0 0] 53)=W at BX BE SZ ⊢
 go_cut [3] (fun v3 wx=>(∃ q A1 m1 cp1 A2 m2 cp2,v3=.pointer (some ⟨q,0,none⟩)/\wx.heap[q]?=some (.cells #[.slice A1 m1 cp1,.bool false,.int .i64 0,.bool false,.int .i64 0,.slice A2 m2 cp2] 53 (0,0))/\LinesV n (.slice A1 m1 cp1) w.heap.size wx/\ActsV n (.slice A2 m2 cp2) w.heap.size wx/\Below w.heap.size w wx/\w.heap.size < q/\(∀ x∈foot (.slice A1 m1 cp1),x≠q/\x≠w.heap.size)/\(∀ x∈foot (.slice A2 m2 cp2),x≠q/\x≠w.heap.size)/\wx.heap[w.heap.size]?=some (.cells #[.slice none 0 0,.bool false,.int .i64 0,.bool false,.int .i64 0,.slice none 0 0] 53 (0,0))))
 case first =>
  obtain⟨e0_,e1_,e2_⟩:=KEEP.out W BE.out
  go_region_held3 (fun x=>x.cell? ⟨p.b,10,none⟩=some (.pointer (some ⟨p.bc,0,none⟩))/\x.cell? ⟨p.b,11,none⟩=some (.pointer (some ⟨p.bt,0,none⟩))/\x.cell? ⟨p.b,12,none⟩=some (.pointer (some ⟨p.bp,0,none⟩))) ((refine KEEP.out _ ?_;(repeat (first | with_reducible exact Below.refl _ _ | with_reducible exact BE.out | with_reducible apply below_alloc | with_reducible apply Below.drew | (with_reducible refine Below.setCell ?_ ?_ _;rotate_left;(focus (have z0:=BE.out.size;have z1:=H1.out.size;simp only[sz_alloc,sz_drew] at z1 ⊢;omega))) | with_reducible refine Lays.chain H2.out ?_ | with_reducible refine Lays.chain H1.out ?_)))) ((first | (go_at_call 67;refine(CA.out _ ?_).mono ?_;(focus ((repeat (first | with_reducible exact Below.refl _ _ | with_reducible exact BE.out | with_reducible apply below_alloc | with_reducible apply Below.drew | (with_reducible refine Below.setCell ?_ ?_ _;rotate_left;(focus (have z0:=BE.out.size;have z1:=H1.out.size;simp only[sz_alloc,sz_drew] at z1 ⊢;omega))) | with_reducible refine Lays.chain H2.out ?_ | with_reducible refine Lays.chain H1.out ?_))));rintro e w1 ⟨A1,m1,cp1,rfl,hC,hL⟩;have H1:=AS hC;have L1:=AS hL;clear hC hL;have hsz:=H1.out.size;(first | rw[sz_alloc] at hsz | rw[sz_drew,sz_alloc] at hsz);clear hsz;have QF:Aside0 (w1.heap[W.heap.size]?=some (.cells #[.slice none 0 0,.bool false,.int .i64 0,.bool false,.int .i64 0,.slice none 0 0] 53 (0,0))):=AS (zblkD (Y:=W) (F:=w1) H1.out);obtain⟨q10_,q11_,q12_,q13_,q14_,q15_,q16_,q17_,q18_,q19_,q110_,q111_⟩:=ZF.out _ _ QF.out) | (go_at_call 67;refine(CA.out _ ?_).mono ?_;(focus ((repeat (first | with_reducible exact Below.refl _ _ | with_reducible exact BE.out | with_reducible apply below_alloc | with_reducible apply Below.drew | (with_reducible refine Below.setCell ?_ ?_ _;rotate_left;(focus (have z0:=BE.out.size;have z1:=H1.out.size;simp only[sz_alloc,sz_drew] at z1 ⊢;omega))) | with_reducible refine Lays.chain H2.out ?_ | with_reducible refine Lays.chain H1.out ?_))));rintro e w1 ⟨A1,m1,cp1,rfl,hC,hL⟩;have H1:=AS hC;have L1:=AS hL;clear hC hL) | (go_at_call 68;refine(TA.out _ ?_).mono ?_;(focus ((repeat (first | with_reducible exact Below.refl _ _ | with_reducible exact BE.out | with_reducible apply below_alloc | with_reducible apply Below.drew | (with_reducible refine Below.setCell ?_ ?_ _;rotate_left;(focus (have z0:=BE.out.size;have z1:=H1.out.size;simp only[sz_alloc,sz_drew] at z1 ⊢;omega))) | with_reducible refine Lays.chain H2.out ?_ | with_reducible refine Lays.chain H1.out ?_))));rintro e w2 ⟨A2,m2,cp2,rfl,hC,hL⟩;have H2:=AS hC;have L2:=AS hL;clear hC hL;have QF:Aside0 (w2.heap[W.heap.size]?=some (.cells #[.slice none 0 0,.bool false,.int .i64 0,.bool false,.int .i64 0,.slice none 0 0] 53 (0,0))):=AS (Lays.blk H2.out QF.out);obtain⟨q20_,q21_,q22_,q23_,q24_,q25_,q26_,q27_,q28_,q29_,q210_,q211_⟩:=ZF.out _ _ QF.out) | (go_at_call 68;refine(TA.out _ ?_).mono ?_;(focus ((repeat (first | with_reducible exact Below.refl _ _ | with_reducible exact BE.out | with_reducible apply below_alloc | with_reducible apply Below.drew | (with_reducible refine Below.setCell ?_ ?_ _;rotate_left;(focus (have z0:=BE.out.size;have z1:=H1.out.size;simp only[sz_alloc,sz_drew] at z1 ⊢;omega))) | with_reducible refine Lays.chain H2.out ?_ | with_reducible refine Lays.chain H1.out ?_))));rintro e w2 ⟨A2,m2,cp2,rfl,hC,hL⟩;have H2:=AS hC;have L2:=AS hL;clear hC hL;have hsz:=H2.out.size;(first | rw[sz_alloc] at hsz | rw[sz_drew,sz_alloc] at hsz);clear hsz;have QF:Aside0 (w2.heap[w1.heap.size]?=some (.cells #[.slice none 0 0,.bool false,.int .i64 0,.bool false,.int .i64 0,.slice none 0 0] 53 (0,0))):=AS (zblk (Y:=w1) (F:=w2) H2.out);obtain⟨q20_,q21_,q22_,q23_,q24_,q25_,q26_,q27_,q28_,q29_,q210_,q211_⟩:=ZF.out _ _ QF.out) | (go_at_call 68;refine(TA.out _ ?_).mono ?_;(focus ((repeat (first | with_reducible exact Below.refl _ _ | with_reducible exact BE.out | with_reducible apply below_alloc | with_reducible apply Below.drew | (with_reducible refine Below.setCell ?_ ?_ _;rotate_left;(focus (have z0:=BE.out.size;have z1:=H1.out.size;simp only[sz_alloc,sz_drew] at z1 ⊢;omega))) | with_reducible refine Lays.chain H2.out ?_ | with_reducible refine Lays.chain H1.out ?_))));rintro e w2 ⟨A2,m2,cp2,rfl,hC,hL⟩;have H2:=AS hC;have L2:=AS hL;clear hC hL)))
  ·go_wp2_with fail
   go_meet
   have s0:=SZ.out
   have s1:=H1.out.size
   have s2:=H2.out.size
   simp only[sz_alloc,sz_drew,sz_set] at s1 s2
   refine⟨w2.heap.size,A1,m1,cp1,A2,m2,cp2,rfl,?_,L1.out.ks (q:=w2.heap.size) ?_ ?_ (fun x hx e=>?_),L2.out.ks (q:=w2.heap.size) ?_ ?_ (fun x hx e=>?_),?_,?_,?_,?_,KS.at_ (F:=fun y=>y=w2.heap.size) (w:=w2) ?_ ?_ (fun e=>?_)⟩
   ·apply blk_as
    ·(repeat (with_reducible first | exact QF.out | exact BX.out | apply blk_set | apply blk_new | apply blk_alloc | apply blk_drew | apply Lays.blk H2.out | apply Lays.blk H1.out))
    ·simp
   ·(repeat (with_reducible first | exact KS.refl _ _ | refine KS.set1 ?_ _ _ | apply KS.alloc | apply KS.drew | refine Lays.ks H2.out ?_ | refine Lays.ks H1.out ?_))
   ·(try simp only[sz_alloc,sz_drew,sz_set])
    omega
   ·have h1:=L1.out.lt x hx
    have h2:=L1.out.2 x hx
    (try simp only[sz_alloc,sz_drew,sz_set] at h1 h2)
    omega
   ·(repeat (with_reducible first | exact KS.refl _ _ | refine KS.set1 ?_ _ _ | apply KS.alloc | apply KS.drew | refine Lays.ks H2.out ?_ | refine Lays.ks H1.out ?_))
   ·(try simp only[sz_alloc,sz_drew,sz_set])
    omega
   ·have h1:=L2.out.lt x hx
    have h2:=L2.out.2 x hx
    (try simp only[sz_alloc,sz_drew,sz_set] at h1 h2)
    omega
   ·(repeat (first | with_reducible exact Below.refl _ _ | with_reducible exact BE.out | with_reducible apply below_alloc | with_reducible apply Below.drew | (with_reducible refine Below.setCell ?_ ?_ _;rotate_left;(focus (have z0:=BE.out.size;have z1:=H1.out.size;simp only[sz_alloc,sz_drew] at z1 ⊢;omega))) | with_reducible refine Lays.chain H2.out ?_ | with_reducible refine Lays.chain H1.out ?_))
   ·omega
   ·intro x hx
    have h1:=L1.out.lt x hx
    have h2:=L1.out.2 x hx
    (try simp only[sz_alloc,sz_drew,sz_set] at h1 h2)
    omega
   ·intro x hx
    have h1:=L2.out.lt x hx
    have h2:=L2.out.2 x hx
    (try simp only[sz_alloc,sz_drew,sz_set] at h1 h2)
    omega
   ·(repeat (with_reducible first | exact KS.refl _ _ | refine KS.set1 ?_ _ _ | apply KS.alloc | apply KS.drew | refine Lays.ks H2.out ?_ | refine Lays.ks H1.out ?_))
   ·(repeat (with_reducible first | exact QF.out | exact BX.out | apply blk_set | apply blk_new | apply blk_alloc | apply blk_drew | apply Lays.blk H2.out | apply Lays.blk H1.out))
   ·have e':w.heap.size=w2.heap.size:=e
    omega
  ·go_wp2_with fail
   go_meet
   have s0:=SZ.out
   have s1:=H1.out.size
   have s2:=H2.out.size
   simp only[sz_alloc,sz_drew,sz_set] at s1 s2
   refine⟨w1.heap.size,A1,m1,cp1,A2,m2,cp2,rfl,?_,L1.out.ks (q:=w1.heap.size) ?_ ?_ (fun x hx e=>?_),L2.out.ks (q:=w1.heap.size) ?_ ?_ (fun x hx e=>?_),?_,?_,?_,?_,KS.at_ (F:=fun y=>y=w1.heap.size) (w:=w2) ?_ ?_ (fun e=>?_)⟩
   ·apply blk_as
    ·(repeat (with_reducible first | exact QF.out | exact BX.out | apply blk_set | apply blk_new | apply blk_alloc | apply blk_drew | apply Lays.blk H2.out | apply Lays.blk H1.out))
    ·simp
   ·(repeat (with_reducible first | exact KS.refl _ _ | refine KS.set1 ?_ _ _ | apply KS.alloc | apply KS.drew | refine Lays.ks H2.out ?_ | refine Lays.ks H1.out ?_))
   ·(try simp only[sz_alloc,sz_drew,sz_set])
    omega
   ·have h1:=L1.out.lt x hx
    have h2:=L1.out.2 x hx
    (try simp only[sz_alloc,sz_drew,sz_set] at h1 h2)
    omega
   ·(repeat (with_reducible first | exact KS.refl _ _ | refine KS.set1 ?_ _ _ | apply KS.alloc | apply KS.drew | refine Lays.ks H2.out ?_ | refine Lays.ks H1.out ?_))
   ·(try simp only[sz_alloc,sz_drew,sz_set])
    omega
   ·have h1:=L2.out.lt x hx
    have h2:=L2.out.2 x hx
    (try simp only[sz_alloc,sz_drew,sz_set] at h1 h2)
    omega
   ·(repeat (first | with_reducible exact Below.refl _ _ | with_reducible exact BE.out | with_reducible apply below_alloc | with_reducible apply Below.drew | (with_reducible refine Below.setCell ?_ ?_ _;rotate_left;(focus (have z0:=BE.out.size;have z1:=H1.out.size;simp only[sz_alloc,sz_drew] at z1 ⊢;omega))) | with_reducible refine Lays.chain H2.out ?_ | with_reducible refine Lays.chain H1.out ?_))
   ·omega
   ·intro x hx
    have h1:=L1.out.lt x hx
    have h2:=L1.out.2 x hx
    (try simp only[sz_alloc,sz_drew,sz_set] at h1 h2)
    omega
   ·intro x hx
    have h1:=L2.out.lt x hx
    have h2:=L2.out.2 x hx
    (try simp only[sz_alloc,sz_drew,sz_set] at h1 h2)
    omega
   ·(repeat (with_reducible first | exact KS.refl _ _ | refine KS.set1 ?_ _ _ | apply KS.alloc | apply KS.drew | refine Lays.ks H2.out ?_ | refine Lays.ks H1.out ?_))
   ·(repeat (with_reducible first | exact QF.out | exact BX.out | apply blk_set | apply blk_new | apply blk_alloc | apply blk_drew | apply Lays.blk H2.out | apply Lays.blk H1.out))
   ·have e':w.heap.size=w1.heap.size:=e
    omega
  ·go_wp2_with fail
   go_meet
   have s0:=SZ.out
   have s1:=H1.out.size
   have s2:=H2.out.size
   simp only[sz_alloc,sz_drew,sz_set] at s1 s2
   refine⟨W.heap.size,A1,m1,cp1,A2,m2,cp2,rfl,?_,L1.out.ks (q:=W.heap.size) ?_ ?_ (fun x hx e=>?_),L2.out.ks (q:=W.heap.size) ?_ ?_ (fun x hx e=>?_),?_,?_,?_,?_,KS.at_ (F:=fun y=>y=W.heap.size) (w:=w2) ?_ ?_ (fun e=>?_)⟩
   ·apply blk_as
    ·(repeat (with_reducible first | exact QF.out | exact BX.out | apply blk_set | apply blk_new | apply blk_alloc | apply blk_drew | apply Lays.blk H2.out | apply Lays.blk H1.out))
    ·simp
   ·(repeat (with_reducible first | exact KS.refl _ _ | refine KS.set1 ?_ _ _ | apply KS.alloc | apply KS.drew | refine Lays.ks H2.out ?_ | refine Lays.ks H1.out ?_))
   ·(try simp only[sz_alloc,sz_drew,sz_set])
    omega
   ·have h1:=L1.out.lt x hx
    have h2:=L1.out.2 x hx
    (try simp only[sz_alloc,sz_drew,sz_set] at h1 h2)
    omega
   ·(repeat (with_reducible first | exact KS.refl _ _ | refine KS.set1 ?_ _ _ | apply KS.alloc | apply KS.drew | refine Lays.ks H2.out ?_ | refine Lays.ks H1.out ?_))
   ·(try simp only[sz_alloc,sz_drew,sz_set])
    omega
   ·have h1:=L2.out.lt x hx
    have h2:=L2.out.2 x hx
    (try simp only[sz_alloc,sz_drew,sz_set] at h1 h2)
    omega
   ·(repeat (first | with_reducible exact Below.refl _ _ | with_reducible exact BE.out | with_reducible apply below_alloc | with_reducible apply Below.drew | (with_reducible refine Below.setCell ?_ ?_ _;rotate_left;(focus (have z0:=BE.out.size;have z1:=H1.out.size;simp only[sz_alloc,sz_drew] at z1 ⊢;omega))) | with_reducible refine Lays.chain H2.out ?_ | with_reducible refine Lays.chain H1.out ?_))
   ·omega
   ·intro x hx
    have h1:=L1.out.lt x hx
    have h2:=L1.out.2 x hx
    (try simp only[sz_alloc,sz_drew,sz_set] at h1 h2)
    omega
   ·intro x hx
    have h1:=L2.out.lt x hx
    have h2:=L2.out.2 x hx
    (try simp only[sz_alloc,sz_drew,sz_set] at h1 h2)
    omega
   ·(repeat (with_reducible first | exact KS.refl _ _ | refine KS.set1 ?_ _ _ | apply KS.alloc | apply KS.drew | refine Lays.ks H2.out ?_ | refine Lays.ks H1.out ?_))
   ·(repeat (with_reducible first | exact QF.out | exact BX.out | apply blk_set | apply blk_new | apply blk_alloc | apply blk_drew | apply Lays.blk H2.out | apply Lays.blk H1.out))
   ·have e':w.heap.size=W.heap.size:=e
    omega
 case rest =>
  obtain⟨q,A1,m1,cp1,A2,m2,cp2,rfl,hb1,hl1,hl2,hbe,hq1,hf1,hf2,hb2⟩:=hcut
  have FQ1:=AS (fun x hx=>(hf1 x hx).1)
  have FR1:=AS (fun x hx=>(hf1 x hx).2)
  have FQ2:=AS (fun x hx=>(hf2 x hx).1)
  have FR2:=AS (fun x hx=>(hf2 x hx).2)
  clear hf1 hf2
  have hq0:q≠w.heap.size:=by omega
  have QB:=AS hb1
  have L1:=AS hl1
  have L2:=AS hl2
  have BE2:=AS hbe
  have RB:=AS hb2
  have e0_:wc.cell? ⟨p.b,12,none⟩=some (.pointer (some ⟨p.bp,0,none⟩)):=(KEEP.out wc hbe).2.2
  have PC:=AS (PA.out wc hbe)
  clear hb1 hl1 hl2 hbe hb2
  go_wp2_with fail
  refine PC.out.mono ?_
  rintro e w3 ⟨rfl,hb3⟩
  have Q3:=AS (blk_below QB.out hb3)
  have R3:=AS (blk_below RB.out hb3)
  have B3:=AS hb3
  obtain⟨e0_,e1_,e2_,e3_,e4_,e5_⟩:=(show w3.cell? ⟨q,0,none⟩=some (.slice A1 m1 cp1)/\w3.cell? ⟨q,1,none⟩=some (.bool false)/\w3.cell? ⟨q,2,none⟩=some (.int .i64 0)/\w3.cell? ⟨q,3,none⟩=some (.bool false)/\w3.cell? ⟨q,4,none⟩=some (.int .i64 0)/\w3.cell? ⟨q,5,none⟩=some (.slice A2 m2 cp2) from⟨cw Q3.out 0,cw Q3.out 1,cw Q3.out 2,cw Q3.out 3,cw Q3.out 4,cw Q3.out 5⟩)
  obtain⟨f0_,f1_,f2_,f3_,f4_,f5_⟩:=(show w3.cell? ⟨w.heap.size,0,none⟩=some (.slice none 0 0)/\w3.cell? ⟨w.heap.size,1,none⟩=some (.bool false)/\w3.cell? ⟨w.heap.size,2,none⟩=some (.int .i64 0)/\w3.cell? ⟨w.heap.size,3,none⟩=some (.bool false)/\w3.cell? ⟨w.heap.size,4,none⟩=some (.int .i64 0)/\w3.cell? ⟨w.heap.size,5,none⟩=some (.slice none 0 0) from⟨cw R3.out 0,cw R3.out 1,cw R3.out 2,cw R3.out 3,cw R3.out 4,cw R3.out 5⟩)
  obtain⟨z0_,z1_,z2_,z3_,z4_,z5_⟩:=(show w3.frozen? ⟨q,0,none⟩=false/\w3.frozen? ⟨q,1,none⟩=false/\w3.frozen? ⟨q,2,none⟩=false/\w3.frozen? ⟨q,3,none⟩=false/\w3.frozen? ⟨q,4,none⟩=false/\w3.frozen? ⟨q,5,none⟩=false from⟨blk_frozen Q3.out 0,blk_frozen Q3.out 1,blk_frozen Q3.out 2,blk_frozen Q3.out 3,blk_frozen Q3.out 4,blk_frozen Q3.out 5⟩)
  obtain⟨y0_,y1_,y2_,y3_,y4_,y5_⟩:=(show w3.frozen? ⟨w.heap.size,0,none⟩=false/\w3.frozen? ⟨w.heap.size,1,none⟩=false/\w3.frozen? ⟨w.heap.size,2,none⟩=false/\w3.frozen? ⟨w.heap.size,3,none⟩=false/\w3.frozen? ⟨w.heap.size,4,none⟩=false/\w3.frozen? ⟨w.heap.size,5,none⟩=false from⟨blk_frozen R3.out 0,blk_frozen R3.out 1,blk_frozen R3.out 2,blk_frozen R3.out 3,blk_frozen R3.out 4,blk_frozen R3.out 5⟩)
  clear hb3 e0_
  simp only[opV]
  go_upto_region 3 with fail
  have Q4:=AS (show((((w3.setCell ⟨q,2,none⟩ (.int .i64 n.cpu.op.block)).setCell ⟨q,3,none⟩ (.bool n.cpu.op.write)).setCell ⟨q,4,none⟩ (.int .i64 n.cpu.op.value)).setCell ⟨q,1,none⟩ (.bool n.cpu.busy)).heap[q]?=some (.cells #[.slice A1 m1 cp1,.bool n.cpu.busy,.int .i64 n.cpu.op.block,.bool n.cpu.op.write,.int .i64 n.cpu.op.value,.slice A2 m2 cp2] 53 (0,0)) from(by have q1:=blk_set Q3.out 2 (.int .i64 n.cpu.op.block);have q2:=blk_set q1 3 (.bool n.cpu.op.write);have q3:=blk_set q2 4 (.int .i64 n.cpu.op.value);have q4:=blk_set q3 1 (.bool n.cpu.busy);exact blk_as q4 (by simp)))
  have KK:=AS (show KS (fun y=>y=q) w3 ((((w3.setCell ⟨q,2,none⟩ (.int .i64 n.cpu.op.block)).setCell ⟨q,3,none⟩ (.bool n.cpu.op.write)).setCell ⟨q,4,none⟩ (.int .i64 n.cpu.op.value)).setCell ⟨q,1,none⟩ (.bool n.cpu.busy)) from(by repeat (with_reducible first | exact KS.refl _ _ | refine KS.set1 ?_ _ _ | apply KS.alloc | apply KS.drew)))
  have R4:=AS (KK.out.at_ R3.out (fun e=>hq0 (Eq.symm e)))
  generalize ((((w3.setCell ⟨q,2,none⟩ (.int .i64 n.cpu.op.block)).setCell ⟨q,3,none⟩ (.bool n.cpu.op.write)).setCell ⟨q,4,none⟩ (.int .i64 n.cpu.op.value)).setCell ⟨q,1,none⟩ (.bool n.cpu.busy))=W4 at Q4 KK R4 ⊢
  clear e0_ f0_ z0_ y0_ e1_ f1_ z1_ y1_ e2_ f2_ z2_ y2_ e3_ f3_ z3_ y3_ e4_ f4_ z4_ y4_ e5_ f5_ z5_ y5_
  obtain⟨e0_,e1_,e2_,e3_,e4_,e5_⟩:=(show W4.cell? ⟨q,0,none⟩=some (.slice A1 m1 cp1)/\W4.cell? ⟨q,1,none⟩=some (.bool n.cpu.busy)/\W4.cell? ⟨q,2,none⟩=some (.int .i64 n.cpu.op.block)/\W4.cell? ⟨q,3,none⟩=some (.bool n.cpu.op.write)/\W4.cell? ⟨q,4,none⟩=some (.int .i64 n.cpu.op.value)/\W4.cell? ⟨q,5,none⟩=some (.slice A2 m2 cp2) from⟨cw Q4.out 0,cw Q4.out 1,cw Q4.out 2,cw Q4.out 3,cw Q4.out 4,cw Q4.out 5⟩)
  obtain⟨f0_,f1_,f2_,f3_,f4_,f5_⟩:=(show W4.cell? ⟨w.heap.size,0,none⟩=some (.slice none 0 0)/\W4.cell? ⟨w.heap.size,1,none⟩=some (.bool false)/\W4.cell? ⟨w.heap.size,2,none⟩=some (.int .i64 0)/\W4.cell? ⟨w.heap.size,3,none⟩=some (.bool false)/\W4.cell? ⟨w.heap.size,4,none⟩=some (.int .i64 0)/\W4.cell? ⟨w.heap.size,5,none⟩=some (.slice none 0 0) from⟨cw R4.out 0,cw R4.out 1,cw R4.out 2,cw R4.out 3,cw R4.out 4,cw R4.out 5⟩)
  obtain⟨y0_,y1_,y2_,y3_,y4_,y5_⟩:=(show W4.frozen? ⟨w.heap.size,0,none⟩=false/\W4.frozen? ⟨w.heap.size,1,none⟩=false/\W4.frozen? ⟨w.heap.size,2,none⟩=false/\W4.frozen? ⟨w.heap.size,3,none⟩=false/\W4.frozen? ⟨w.heap.size,4,none⟩=false/\W4.frozen? ⟨w.heap.size,5,none⟩=false from⟨blk_frozen R4.out 0,blk_frozen R4.out 1,blk_frozen R4.out 2,blk_frozen R4.out 3,blk_frozen R4.out 4,blk_frozen R4.out 5⟩)
  go_wp2
  have hlt:=blk_lt QB.out
  have hs3:=B3.out.size
  have hs2:=BE2.out.size
  have hW4:=AS (show Below w.heap.size w W4 from(BE2.out.trans (B3.out.mono BE2.out.size)).trans (KK.out.toBelow (fun y hy=>by have hy':y=q:=hy;omega) (by omega)))
  have BF:=AS (show Below w.heap.size w (((((((W4).setCell ⟨w.heap.size,0,none⟩ (.slice A1 m1 cp1)).setCell ⟨w.heap.size,1,none⟩ (.bool n.cpu.busy)).setCell ⟨w.heap.size,2,none⟩ (.int .i64 n.cpu.op.block)).setCell ⟨w.heap.size,3,none⟩ (.bool n.cpu.op.write)).setCell ⟨w.heap.size,4,none⟩ (.int .i64 n.cpu.op.value)).setCell ⟨w.heap.size,5,none⟩ (.slice A2 m2 cp2)) from by
   repeat (first | exact hW4.out | with_reducible refine Below.setCell ?_ (by dsimp only;omega) _))
  have KK5:=AS (show KS (fun y=>y=w.heap.size) W4 (((((((W4).setCell ⟨w.heap.size,0,none⟩ (.slice A1 m1 cp1)).setCell ⟨w.heap.size,1,none⟩ (.bool n.cpu.busy)).setCell ⟨w.heap.size,2,none⟩ (.int .i64 n.cpu.op.block)).setCell ⟨w.heap.size,3,none⟩ (.bool n.cpu.op.write)).setCell ⟨w.heap.size,4,none⟩ (.int .i64 n.cpu.op.value)).setCell ⟨w.heap.size,5,none⟩ (.slice A2 m2 cp2)) from(by repeat (with_reducible first | exact KS.refl _ _ | refine KS.set1 ?_ _ _ | apply KS.alloc | apply KS.drew)))
  have R5:=AS (show(((((((W4).setCell ⟨w.heap.size,0,none⟩ (.slice A1 m1 cp1)).setCell ⟨w.heap.size,1,none⟩ (.bool n.cpu.busy)).setCell ⟨w.heap.size,2,none⟩ (.int .i64 n.cpu.op.block)).setCell ⟨w.heap.size,3,none⟩ (.bool n.cpu.op.write)).setCell ⟨w.heap.size,4,none⟩ (.int .i64 n.cpu.op.value)).setCell ⟨w.heap.size,5,none⟩ (.slice A2 m2 cp2)).heap[w.heap.size]?=some (.cells #[.slice A1 m1 cp1,.bool n.cpu.busy,.int .i64 n.cpu.op.block,.bool n.cpu.op.write,.int .i64 n.cpu.op.value,.slice A2 m2 cp2] 53 (0,0)) from(by
   have q0:=blk_set R4.out 0 (.slice A1 m1 cp1)
   have q1:=blk_set q0 1 (.bool n.cpu.busy)
   have q2:=blk_set q1 2 (.int .i64 n.cpu.op.block)
   have q3:=blk_set q2 3 (.bool n.cpu.op.write)
   have q4:=blk_set q3 4 (.int .i64 n.cpu.op.value)
   have q5:=blk_set q4 5 (.slice A2 m2 cp2)
   exact blk_as q5 (by simp)))
  generalize (((((((W4).setCell ⟨w.heap.size,0,none⟩ (.slice A1 m1 cp1)).setCell ⟨w.heap.size,1,none⟩ (.bool n.cpu.busy)).setCell ⟨w.heap.size,2,none⟩ (.int .i64 n.cpu.op.block)).setCell ⟨w.heap.size,3,none⟩ (.bool n.cpu.op.write)).setCell ⟨w.heap.size,4,none⟩ (.int .i64 n.cpu.op.value)).setCell ⟨w.heap.size,5,none⟩ (.slice A2 m2 cp2))=W5 at BF R5 KK5 ⊢
  obtain⟨g0_,g1_,g2_,g3_,g4_,g5_⟩:=(show W5.cell? ⟨w.heap.size,0,none⟩=some (.slice A1 m1 cp1)/\W5.cell? ⟨w.heap.size,1,none⟩=some (.bool n.cpu.busy)/\W5.cell? ⟨w.heap.size,2,none⟩=some (.int .i64 n.cpu.op.block)/\W5.cell? ⟨w.heap.size,3,none⟩=some (.bool n.cpu.op.write)/\W5.cell? ⟨w.heap.size,4,none⟩=some (.int .i64 n.cpu.op.value)/\W5.cell? ⟨w.heap.size,5,none⟩=some (.slice A2 m2 cp2) from⟨cw R5.out 0,cw R5.out 1,cw R5.out 2,cw R5.out 3,cw R5.out 4,cw R5.out 5⟩)
  refine bodyPost_ret (v:=placeV n (.slice A1 m1 cp1) (.slice A2 m2 cp2)) (by simp[results,Tryz.results38,go_sem,placeV,g0_,g1_,g2_,g3_,g4_,g5_]) rfl ?_
  exact⟨_,_,rfl,((L1.out.below B3.out (Nat.le_refl _)).ks KK.out (Nat.le_refl _) (fun x hx e=>FQ1.out x hx e)).ks KK5.out (Nat.le_refl _) (fun x hx e=>FR1.out x hx e),((L2.out.below B3.out (Nat.le_refl _)).ks KK.out (Nat.le_refl _) (fun x hx e=>FQ2.out x hx e)).ks KK5.out (Nat.le_refl _) (fun x hx e=>FR2.out x hx e),BF.out⟩
end Go.Proofs.YtiebppkhaiofeaaGreat.K
