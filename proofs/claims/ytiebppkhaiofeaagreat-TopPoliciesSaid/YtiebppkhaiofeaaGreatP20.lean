/- Part of the proof of TopPolicies: what functions of the program do. -/
import Derived.Test.YtiebppkhaiofeaaGreatP19
import Derived.Test.YtiebppkhaiofeaaGreatP14
import Derived.Test.YtiebppkhaiofeaaGreatP15
import Derived.Test.YtiebppkhaiofeaaGreatP00
set_option maxHeartbeats 4000000
set_option maxRecDepth 100000
set_option linter.unusedVariables false
set_option linter.unusedSimpArgs false
open Go.IntKind renaming i64→I
open Go.Value renaming slice→J, int→V, bool→aA, pointer→bA
open Option renaming some→M, none→U
open Go.Obj renaming cells→O
open Go renaming Calls→bB, World→cA, bodyPost_ret→yA
open Go.Proofs.Tryz renaming prog→dA
open Go.Proofs.YtiebppkhaiofeaaGreatW.PrintWords renaming below_alloc→eA, blk_lt→eB, blk_drew→fB, blk_frozen→jA, blk_below→kA, blk_alloc→lA, blk_set→mA, blk_new→nA
open Go.RowKit.Below renaming refl→fA, drew→iA, setCell→oA
open Go.Proofs.YtiebppkhaiofeaaGreat.K renaming sz_alloc→gB, sz_drew→iB, rec_old→jB
open Nat renaming le_trans→lB, le_refl→pA
open Go.Proofs.YtiebppkhaiofeaaGreat.K.KS renaming below→pB, refl→qB, drew→sB, set1→tB
open And renaming intro→qA
open List renaming mem_singleton→tA
namespace Go.Proofs.YtiebppkhaiofeaaGreat.K
open Go.RowKit Go.Proofs.YtiebppkhaiofeaaGreatW.PrintWords Go.Proofs.YtiebppkhaiofeaaGreat.S
attribute [local go_sem] World.cell?_alloc_some
open Go.ChangeMaps Go.MapKept
def PlaceV (n:S.Node) (vl va:Value) (B:Nat) (w':cA):Prop :=
 (∃ ks:List Int,ks.Nodup/\(∀ k,n.lines.rows k≠[]->k∈ks)/\OwnE lineE vl (((ks.flatMap n.lines.rows).mergeSort fun x y=>decide (x≤y)).map fun x=>⟨x,n.lines.tok x⟩) w') /\
 (∃ L:List Int,L.Nodup/\(∀ k,k∈L↔(n.know.act k).isSome)/\OwnE actE va (L.map (Table.actOf n.know)) w')/\(∀ x∈foot vl,B≤x)/\∀ x∈foot va,B≤x
theorem PlaceV.below {n:S.Node} {vl va:Value} {B:Nat} {w w':cA} (h:PlaceV n vl va B w) (hb:Below w.heap.size w w'):PlaceV n vl va B w':=by
 obtain⟨⟨ks,k1,k2,k3⟩,⟨L,l1,l2,l3⟩,h3,h4⟩:=h
 exact⟨⟨ks,k1,k2,k3.ks (pB (fun _=>False) hb) (fun _ _=>id)⟩,⟨L,l1,l2,l3.ks (pB (fun _=>False) hb) (fun _ _=>id)⟩,h3,h4⟩
def placeV (n:S.Node) (vl va:Value):Value:=.agg #[vl,aA n.cpu.busy,V I n.cpu.op.block,aA n.cpu.op.write,V I n.cpu.op.value,va]
def LinesV (n:S.Node) (vl:Value) (B:Nat) (w':cA):Prop:=(∃ ks:List Int,ks.Nodup/\(∀ k,n.lines.rows k≠[]->k∈ks)/\OwnE lineE vl (((ks.flatMap n.lines.rows).mergeSort fun x y=>decide (x≤y)).map fun x=>⟨x,n.lines.tok x⟩) w')/\∀ x∈foot vl,B≤x
def ActsV (n:S.Node) (va:Value) (B:Nat) (w':cA):Prop:=(∃ L:List Int,L.Nodup/\(∀ k,k∈L↔(n.know.act k).isSome)/\OwnE actE va (L.map (Table.actOf n.know)) w')/\∀ x∈foot va,B≤x
theorem all_lays {c:Cfg} {n:S.Node} {b:Nat} {F:Set_} {w X:cA} (h:CacAt c n.lines b F w) (hn:∀ ks:List Int,ks.Nodup->(ks.flatMap n.lines.rows).length≤1000000) (hb:Below w.heap.size w X):bB dA 67 #[bA (M ⟨b,0,U⟩)] X fun e w'=>∃ A m cp,e=.returned (J A m cp)/\Lays (fun F w=>LinesV n (J A m cp) w.heap.size w->LinesV n (J A m cp) w.heap.size w) X w'/\LinesV n (J A m cp) X.heap.size w':=by
 refine(cacAll_any (h.keep (pB (fun _=>False) hb) (fun x _ hF=>⟨hF,id⟩)) hn).mono ?_
 rintro e w' ⟨A,m,cp,ks,he,h1,h2,h3,h4,h5⟩
 exact⟨A,m,cp,he,⟨id,h5⟩,⟨ks,h1,h2,h3⟩,h4⟩
theorem list_lays {n:S.Node} {b:Nat} {F:Set_} {w X:cA} (h:TabAt n.know b F w) (hw:∀ k,(n.know.act k).isSome->0≤k/\k < 64) (hb:Below w.heap.size w X):bB dA 68 #[bA (M ⟨b,0,U⟩)] X fun e w'=>∃ A m cp,e=.returned (J A m cp)/\Lays (fun F w=>ActsV n (J A m cp) w.heap.size w->ActsV n (J A m cp) w.heap.size w) X w'/\ActsV n (J A m cp) X.heap.size w':=by
 refine(tabList_any (h.keep (pB (fun _=>False) hb) (fun x _ hF=>⟨hF,id⟩)) hw).mono ?_
 rintro e w' ⟨A,m,cp,L,he,h1,h2,h3,h4,h5⟩
 exact⟨A,m,cp,he,⟨id,h5⟩,⟨L,h1,h2,h3⟩,h4⟩
theorem LinesV.below {n:S.Node} {v:Value} {B B':Nat} {w w':cA} (h:LinesV n v B w) (hb:Below w.heap.size w w') (hB:B'≤B):LinesV n v B' w':=⟨h.1.imp fun ks k=>⟨k.1,k.2.1,k.2.2.ks (pB (fun _=>False) hb) (fun _ _=>id)⟩,fun x hx=>lB hB (h.2 x hx)⟩
theorem ActsV.below {n:S.Node} {v:Value} {B B':Nat} {w w':cA} (h:ActsV n v B w) (hb:Below w.heap.size w w') (hB:B'≤B):ActsV n v B' w':=⟨h.1.imp fun ks k=>⟨k.1,k.2.1,k.2.2.ks (pB (fun _=>False) hb) (fun _ _=>id)⟩,fun x hx=>lB hB (h.2 x hx)⟩
theorem LinesV.lt {n:S.Node} {v:Value} {B:Nat} {w:cA} (h:LinesV n v B w):∀ x∈foot v,x < w.heap.size:=by
 obtain⟨⟨ks,-,-,k3⟩,-⟩:=h
 exact k3.lt
theorem LinesV.ks {n:S.Node} {v:Value} {B B' q:Nat} {w w':cA} (h:LinesV n v B w) (hk:KS (fun y=>y=q) w w') (hB:B'≤B) (hq:∀ x∈foot v,x≠q):LinesV n v B' w':=⟨h.1.imp fun ks k=>⟨k.1,k.2.1,k.2.2.ks hk hq⟩,fun x hx=>lB hB (h.2 x hx)⟩
theorem ActsV.lt {n:S.Node} {v:Value} {B:Nat} {w:cA} (h:ActsV n v B w):∀ x∈foot v,x < w.heap.size:=by
 obtain⟨⟨ks,-,-,k3⟩,-⟩:=h
 exact k3.lt
theorem ActsV.ks {n:S.Node} {v:Value} {B B' q:Nat} {w w':cA} (h:ActsV n v B w) (hk:KS (fun y=>y=q) w w') (hB:B'≤B) (hq:∀ x∈foot v,x≠q):ActsV n v B' w':=⟨h.1.imp fun ks k=>⟨k.1,k.2.1,k.2.2.ks hk hq⟩,fun x hx=>lB hB (h.2 x hx)⟩
theorem zblk {P:Set_->cA->Prop} {Y F:cA} (hl:Lays P (Y.alloc (O #[J U 0 0,aA false,V I 0,aA false,V I 0,J U 0 0] 53)) F):F.heap[Y.heap.size]?=M (O #[J U 0 0,aA false,V I 0,aA false,V I 0,J U 0 0] 53 (0,0)):=Lays.blk hl (nA Y _)
theorem zblkD {P:Set_->cA->Prop} {Y F:cA} (hl:Lays P (Y.alloc (O #[J U 0 0,aA false,V I 0,aA false,V I 0,J U 0 0] 53)).drew F):F.heap[Y.heap.size]?=M (O #[J U 0 0,aA false,V I 0,aA false,V I 0,J U 0 0] 53 (0,0)):=Lays.blk hl (fB (nA Y _))
theorem nodePlace_any {c:Cfg} {n:S.Node} {b:Nat} {F:Set_} {w:cA} (hN:NodeAt c n b F w) (hw:∀ k,(n.know.act k).isSome->0≤k/\k < 64) (hn:∀ ks:List Int,ks.Nodup->(ks.flatMap n.lines.rows).length≤1000000):bB dA 38 #[bA (M ⟨b,0,U⟩)] w fun e w'=>∃ vl va,e=.returned (placeV n vl va)/\LinesV n vl w.heap.size w'/\ActsV n va w.heap.size w'/\Below w.heap.size w w':=by
 obtain⟨p,K,rfl,hK,-⟩:=hN
 have CA:=AS (fun X hb=>all_lays (X:=X) hK.2.2.1.at_ hn hb)
 have TA:=AS (fun X hb=>list_lays (X:=X) hK.2.2.2.1 hw hb)
 have PA:=AS (fun X (hb:Below w.heap.size w X)=>pending_any (show ProcAt c n.cpu p.bp X from kA hK.2.2.2.2.1 hb))
 have HB:=AS (show w.heap[p.b]?=M (O (nodeC c n p) 133 (0,0)) from hK.1)
 clear hK hw hn
 have KEEP:=AS (show ∀ x,Below w.heap.size w x->(x.cell? ⟨p.b,10,U⟩=M (bA (M ⟨p.bc,0,U⟩))/\x.cell? ⟨p.b,11,U⟩=M (bA (M ⟨p.bt,0,U⟩))/\x.cell? ⟨p.b,12,U⟩=M (bA (M ⟨p.bp,0,U⟩))) from fun x hx=>by have h11:=kA HB.out hx;exact⟨cw h11 10,cw h11 11,cw h11 12⟩)
 have ZF:=AS (show ∀ (x:cA) (g:Nat),x.heap[g]?=M (O #[J U 0 0,aA false,V I 0,aA false,V I 0,J U 0 0] 53 (0,0))->(x.cell? ⟨g,0,U⟩=M (J U 0 0)/\x.cell? ⟨g,1,U⟩=M (aA false)/\x.cell? ⟨g,2,U⟩=M (V I 0)/\x.cell? ⟨g,3,U⟩=M (aA false)/\x.cell? ⟨g,4,U⟩=M (V I 0)/\x.cell? ⟨g,5,U⟩=M (J U 0 0)/\x.frozen? ⟨g,0,U⟩=false/\x.frozen? ⟨g,1,U⟩=false/\x.frozen? ⟨g,2,U⟩=false/\x.frozen? ⟨g,3,U⟩=false/\x.frozen? ⟨g,4,U⟩=false/\x.frozen? ⟨g,5,U⟩=false) from fun x g h=>⟨cw h 0,cw h 1,cw h 2,cw h 3,cw h 4,cw h 5,jA h 0,jA h 1,jA h 2,jA h 3,jA h 4,jA h 5⟩)
 go_enter Tryz.func38,Tryz.ntmps38
 go_upto_region 1 with fail
 have BX:=AS (nA w (O #[J U 0 0,aA false,V I 0,aA false,V I 0,J U 0 0] 53))
 have BE:=AS (eA (fA w.heap.size w) (O #[J U 0 0,aA false,V I 0,aA false,V I 0,J U 0 0] 53))
 have SZ:=AS (gB w (O #[J U 0 0,aA false,V I 0,aA false,V I 0,J U 0 0] 53))
 generalize w.alloc (O #[J U 0 0,aA false,V I 0,aA false,V I 0,J U 0 0] 53)=W at BX BE SZ ⊢
 go_cut [3] (fun v3 wx=>(∃ q A1 m1 cp1 A2 m2 cp2,v3=bA (M ⟨q,0,U⟩)/\wx.heap[q]?=M (O #[J A1 m1 cp1,aA false,V I 0,aA false,V I 0,J A2 m2 cp2] 53 (0,0))/\LinesV n (J A1 m1 cp1) w.heap.size wx/\ActsV n (J A2 m2 cp2) w.heap.size wx/\Below w.heap.size w wx/\w.heap.size < q/\(∀ x∈foot (J A1 m1 cp1),x≠q/\x≠w.heap.size)/\(∀ x∈foot (J A2 m2 cp2),x≠q/\x≠w.heap.size)/\wx.heap[w.heap.size]?=M (O #[J U 0 0,aA false,V I 0,aA false,V I 0,J U 0 0] 53 (0,0))))
 case first =>
  obtain⟨e0_,e1_,e2_⟩:=KEEP.out W BE.out
  go_region_held3 (fun x=>x.cell? ⟨p.b,10,U⟩=M (bA (M ⟨p.bc,0,U⟩))/\x.cell? ⟨p.b,11,U⟩=M (bA (M ⟨p.bt,0,U⟩))/\x.cell? ⟨p.b,12,U⟩=M (bA (M ⟨p.bp,0,U⟩))) ((refine KEEP.out _ ?_;(repeat (first | with_reducible exact fA _ _ | with_reducible exact BE.out | with_reducible apply eA | with_reducible apply iA | (with_reducible refine oA ?_ ?_ _;rotate_left;(focus (have z0:=BE.out.size;have z1:=H1.out.size;simp only[gB,iB] at z1 ⊢;omega))) | with_reducible refine Lays.chain H2.out ?_ | with_reducible refine Lays.chain H1.out ?_)))) ((first | (go_at_call 67;refine(CA.out _ ?_).mono ?_;(focus ((repeat (first | with_reducible exact fA _ _ | with_reducible exact BE.out | with_reducible apply eA | with_reducible apply iA | (with_reducible refine oA ?_ ?_ _;rotate_left;(focus (have z0:=BE.out.size;have z1:=H1.out.size;simp only[gB,iB] at z1 ⊢;omega))) | with_reducible refine Lays.chain H2.out ?_ | with_reducible refine Lays.chain H1.out ?_))));rintro e w1 ⟨A1,m1,cp1,rfl,hC,hL⟩;have H1:=AS hC;have L1:=AS hL;clear hC hL;have hsz:=H1.out.size;(first | rw[gB] at hsz | rw[iB,gB] at hsz);clear hsz;have QF:Aside0 (w1.heap[W.heap.size]?=M (O #[J U 0 0,aA false,V I 0,aA false,V I 0,J U 0 0] 53 (0,0))):=AS (zblkD (Y:=W) (F:=w1) H1.out);obtain⟨q10_,q11_,q12_,q13_,q14_,q15_,q16_,q17_,q18_,q19_,q110_,q111_⟩:=ZF.out _ _ QF.out) | (go_at_call 67;refine(CA.out _ ?_).mono ?_;(focus ((repeat (first | with_reducible exact fA _ _ | with_reducible exact BE.out | with_reducible apply eA | with_reducible apply iA | (with_reducible refine oA ?_ ?_ _;rotate_left;(focus (have z0:=BE.out.size;have z1:=H1.out.size;simp only[gB,iB] at z1 ⊢;omega))) | with_reducible refine Lays.chain H2.out ?_ | with_reducible refine Lays.chain H1.out ?_))));rintro e w1 ⟨A1,m1,cp1,rfl,hC,hL⟩;have H1:=AS hC;have L1:=AS hL;clear hC hL) | (go_at_call 68;refine(TA.out _ ?_).mono ?_;(focus ((repeat (first | with_reducible exact fA _ _ | with_reducible exact BE.out | with_reducible apply eA | with_reducible apply iA | (with_reducible refine oA ?_ ?_ _;rotate_left;(focus (have z0:=BE.out.size;have z1:=H1.out.size;simp only[gB,iB] at z1 ⊢;omega))) | with_reducible refine Lays.chain H2.out ?_ | with_reducible refine Lays.chain H1.out ?_))));rintro e w2 ⟨A2,m2,cp2,rfl,hC,hL⟩;have H2:=AS hC;have L2:=AS hL;clear hC hL;have QF:Aside0 (w2.heap[W.heap.size]?=M (O #[J U 0 0,aA false,V I 0,aA false,V I 0,J U 0 0] 53 (0,0))):=AS (Lays.blk H2.out QF.out);obtain⟨q20_,q21_,q22_,q23_,q24_,q25_,q26_,q27_,q28_,q29_,q210_,q211_⟩:=ZF.out _ _ QF.out) | (go_at_call 68;refine(TA.out _ ?_).mono ?_;(focus ((repeat (first | with_reducible exact fA _ _ | with_reducible exact BE.out | with_reducible apply eA | with_reducible apply iA | (with_reducible refine oA ?_ ?_ _;rotate_left;(focus (have z0:=BE.out.size;have z1:=H1.out.size;simp only[gB,iB] at z1 ⊢;omega))) | with_reducible refine Lays.chain H2.out ?_ | with_reducible refine Lays.chain H1.out ?_))));rintro e w2 ⟨A2,m2,cp2,rfl,hC,hL⟩;have H2:=AS hC;have L2:=AS hL;clear hC hL;have hsz:=H2.out.size;(first | rw[gB] at hsz | rw[iB,gB] at hsz);clear hsz;have QF:Aside0 (w2.heap[w1.heap.size]?=M (O #[J U 0 0,aA false,V I 0,aA false,V I 0,J U 0 0] 53 (0,0))):=AS (zblk (Y:=w1) (F:=w2) H2.out);obtain⟨q20_,q21_,q22_,q23_,q24_,q25_,q26_,q27_,q28_,q29_,q210_,q211_⟩:=ZF.out _ _ QF.out) | (go_at_call 68;refine(TA.out _ ?_).mono ?_;(focus ((repeat (first | with_reducible exact fA _ _ | with_reducible exact BE.out | with_reducible apply eA | with_reducible apply iA | (with_reducible refine oA ?_ ?_ _;rotate_left;(focus (have z0:=BE.out.size;have z1:=H1.out.size;simp only[gB,iB] at z1 ⊢;omega))) | with_reducible refine Lays.chain H2.out ?_ | with_reducible refine Lays.chain H1.out ?_))));rintro e w2 ⟨A2,m2,cp2,rfl,hC,hL⟩;have H2:=AS hC;have L2:=AS hL;clear hC hL)))
  ·go_wp2_with fail
   go_meet
   have s0:=SZ.out
   have s1:=H1.out.size
   have s2:=H2.out.size
   simp only[gB,iB,sz_set] at s1 s2
   refine⟨w2.heap.size,A1,m1,cp1,A2,m2,cp2,rfl,?_,L1.out.ks (q:=w2.heap.size) ?_ ?_ (fun x hx e=>?_),L2.out.ks (q:=w2.heap.size) ?_ ?_ (fun x hx e=>?_),?_,?_,?_,?_,KS.at_ (F:=fun y=>y=w2.heap.size) (w:=w2) ?_ ?_ (fun e=>?_)⟩
   ·apply blk_as
    ·(repeat (with_reducible first | exact QF.out | exact BX.out | apply mA | apply nA | apply lA | apply fB | apply Lays.blk H2.out | apply Lays.blk H1.out))
    ·simp
   ·(repeat (with_reducible first | exact qB _ _ | refine tB ?_ _ _ | apply KS.alloc | apply sB | refine Lays.ks H2.out ?_ | refine Lays.ks H1.out ?_))
   ·(try simp only[gB,iB,sz_set])
    omega
   ·have h1:=L1.out.lt x hx
    have h2:=L1.out.2 x hx
    (try simp only[gB,iB,sz_set] at h1 h2)
    omega
   ·(repeat (with_reducible first | exact qB _ _ | refine tB ?_ _ _ | apply KS.alloc | apply sB | refine Lays.ks H2.out ?_ | refine Lays.ks H1.out ?_))
   ·(try simp only[gB,iB,sz_set])
    omega
   ·have h1:=L2.out.lt x hx
    have h2:=L2.out.2 x hx
    (try simp only[gB,iB,sz_set] at h1 h2)
    omega
   ·(repeat (first | with_reducible exact fA _ _ | with_reducible exact BE.out | with_reducible apply eA | with_reducible apply iA | (with_reducible refine oA ?_ ?_ _;rotate_left;(focus (have z0:=BE.out.size;have z1:=H1.out.size;simp only[gB,iB] at z1 ⊢;omega))) | with_reducible refine Lays.chain H2.out ?_ | with_reducible refine Lays.chain H1.out ?_))
   ·omega
   ·intro x hx
    have h1:=L1.out.lt x hx
    have h2:=L1.out.2 x hx
    (try simp only[gB,iB,sz_set] at h1 h2)
    omega
   ·intro x hx
    have h1:=L2.out.lt x hx
    have h2:=L2.out.2 x hx
    (try simp only[gB,iB,sz_set] at h1 h2)
    omega
   ·(repeat (with_reducible first | exact qB _ _ | refine tB ?_ _ _ | apply KS.alloc | apply sB | refine Lays.ks H2.out ?_ | refine Lays.ks H1.out ?_))
   ·(repeat (with_reducible first | exact QF.out | exact BX.out | apply mA | apply nA | apply lA | apply fB | apply Lays.blk H2.out | apply Lays.blk H1.out))
   ·have e':w.heap.size=w2.heap.size:=e
    omega
  ·go_wp2_with fail
   go_meet
   have s0:=SZ.out
   have s1:=H1.out.size
   have s2:=H2.out.size
   simp only[gB,iB,sz_set] at s1 s2
   refine⟨w1.heap.size,A1,m1,cp1,A2,m2,cp2,rfl,?_,L1.out.ks (q:=w1.heap.size) ?_ ?_ (fun x hx e=>?_),L2.out.ks (q:=w1.heap.size) ?_ ?_ (fun x hx e=>?_),?_,?_,?_,?_,KS.at_ (F:=fun y=>y=w1.heap.size) (w:=w2) ?_ ?_ (fun e=>?_)⟩
   ·apply blk_as
    ·(repeat (with_reducible first | exact QF.out | exact BX.out | apply mA | apply nA | apply lA | apply fB | apply Lays.blk H2.out | apply Lays.blk H1.out))
    ·simp
   ·(repeat (with_reducible first | exact qB _ _ | refine tB ?_ _ _ | apply KS.alloc | apply sB | refine Lays.ks H2.out ?_ | refine Lays.ks H1.out ?_))
   ·(try simp only[gB,iB,sz_set])
    omega
   ·have h1:=L1.out.lt x hx
    have h2:=L1.out.2 x hx
    (try simp only[gB,iB,sz_set] at h1 h2)
    omega
   ·(repeat (with_reducible first | exact qB _ _ | refine tB ?_ _ _ | apply KS.alloc | apply sB | refine Lays.ks H2.out ?_ | refine Lays.ks H1.out ?_))
   ·(try simp only[gB,iB,sz_set])
    omega
   ·have h1:=L2.out.lt x hx
    have h2:=L2.out.2 x hx
    (try simp only[gB,iB,sz_set] at h1 h2)
    omega
   ·(repeat (first | with_reducible exact fA _ _ | with_reducible exact BE.out | with_reducible apply eA | with_reducible apply iA | (with_reducible refine oA ?_ ?_ _;rotate_left;(focus (have z0:=BE.out.size;have z1:=H1.out.size;simp only[gB,iB] at z1 ⊢;omega))) | with_reducible refine Lays.chain H2.out ?_ | with_reducible refine Lays.chain H1.out ?_))
   ·omega
   ·intro x hx
    have h1:=L1.out.lt x hx
    have h2:=L1.out.2 x hx
    (try simp only[gB,iB,sz_set] at h1 h2)
    omega
   ·intro x hx
    have h1:=L2.out.lt x hx
    have h2:=L2.out.2 x hx
    (try simp only[gB,iB,sz_set] at h1 h2)
    omega
   ·(repeat (with_reducible first | exact qB _ _ | refine tB ?_ _ _ | apply KS.alloc | apply sB | refine Lays.ks H2.out ?_ | refine Lays.ks H1.out ?_))
   ·(repeat (with_reducible first | exact QF.out | exact BX.out | apply mA | apply nA | apply lA | apply fB | apply Lays.blk H2.out | apply Lays.blk H1.out))
   ·have e':w.heap.size=w1.heap.size:=e
    omega
  ·go_wp2_with fail
   go_meet
   have s0:=SZ.out
   have s1:=H1.out.size
   have s2:=H2.out.size
   simp only[gB,iB,sz_set] at s1 s2
   refine⟨W.heap.size,A1,m1,cp1,A2,m2,cp2,rfl,?_,L1.out.ks (q:=W.heap.size) ?_ ?_ (fun x hx e=>?_),L2.out.ks (q:=W.heap.size) ?_ ?_ (fun x hx e=>?_),?_,?_,?_,?_,KS.at_ (F:=fun y=>y=W.heap.size) (w:=w2) ?_ ?_ (fun e=>?_)⟩
   ·apply blk_as
    ·(repeat (with_reducible first | exact QF.out | exact BX.out | apply mA | apply nA | apply lA | apply fB | apply Lays.blk H2.out | apply Lays.blk H1.out))
    ·simp
   ·(repeat (with_reducible first | exact qB _ _ | refine tB ?_ _ _ | apply KS.alloc | apply sB | refine Lays.ks H2.out ?_ | refine Lays.ks H1.out ?_))
   ·(try simp only[gB,iB,sz_set])
    omega
   ·have h1:=L1.out.lt x hx
    have h2:=L1.out.2 x hx
    (try simp only[gB,iB,sz_set] at h1 h2)
    omega
   ·(repeat (with_reducible first | exact qB _ _ | refine tB ?_ _ _ | apply KS.alloc | apply sB | refine Lays.ks H2.out ?_ | refine Lays.ks H1.out ?_))
   ·(try simp only[gB,iB,sz_set])
    omega
   ·have h1:=L2.out.lt x hx
    have h2:=L2.out.2 x hx
    (try simp only[gB,iB,sz_set] at h1 h2)
    omega
   ·(repeat (first | with_reducible exact fA _ _ | with_reducible exact BE.out | with_reducible apply eA | with_reducible apply iA | (with_reducible refine oA ?_ ?_ _;rotate_left;(focus (have z0:=BE.out.size;have z1:=H1.out.size;simp only[gB,iB] at z1 ⊢;omega))) | with_reducible refine Lays.chain H2.out ?_ | with_reducible refine Lays.chain H1.out ?_))
   ·omega
   ·intro x hx
    have h1:=L1.out.lt x hx
    have h2:=L1.out.2 x hx
    (try simp only[gB,iB,sz_set] at h1 h2)
    omega
   ·intro x hx
    have h1:=L2.out.lt x hx
    have h2:=L2.out.2 x hx
    (try simp only[gB,iB,sz_set] at h1 h2)
    omega
   ·(repeat (with_reducible first | exact qB _ _ | refine tB ?_ _ _ | apply KS.alloc | apply sB | refine Lays.ks H2.out ?_ | refine Lays.ks H1.out ?_))
   ·(repeat (with_reducible first | exact QF.out | exact BX.out | apply mA | apply nA | apply lA | apply fB | apply Lays.blk H2.out | apply Lays.blk H1.out))
   ·have e':w.heap.size=W.heap.size:=e
    omega
 case rest =>
  obtain⟨q,A1,m1,cp1,A2,m2,cp2,rfl,hb1,hl1,hl2,hbe,hq1,hf1,hf2,hb2⟩:=hcut
  have FQ1:=AS (fun x hx=>(hf1 x hx).1)
  have FR1:=AS (fun x hx=>(hf1 x hx).2)
  have FQ2:=AS (fun x hx=>(hf2 x hx).1)
  have FR2:=AS (fun x hx=>(hf2 x hx).2)
  clear hf1 hf2
  have hq0:q≠w.heap.size:=vB
  have QB:=AS hb1
  have L1:=AS hl1
  have L2:=AS hl2
  have BE2:=AS hbe
  have RB:=AS hb2
  have e0_:wc.cell? ⟨p.b,12,U⟩=M (bA (M ⟨p.bp,0,U⟩)):=(KEEP.out wc hbe).2.2
  have PC:=AS (PA.out wc hbe)
  clear hb1 hl1 hl2 hbe hb2
  go_wp2_with fail
  refine PC.out.mono ?_
  rintro e w3 ⟨rfl,hb3⟩
  have Q3:=AS (kA QB.out hb3)
  have R3:=AS (kA RB.out hb3)
  have B3:=AS hb3
  obtain⟨e0_,e1_,e2_,e3_,e4_,e5_⟩:=(show w3.cell? ⟨q,0,U⟩=M (J A1 m1 cp1)/\w3.cell? ⟨q,1,U⟩=M (aA false)/\w3.cell? ⟨q,2,U⟩=M (V I 0)/\w3.cell? ⟨q,3,U⟩=M (aA false)/\w3.cell? ⟨q,4,U⟩=M (V I 0)/\w3.cell? ⟨q,5,U⟩=M (J A2 m2 cp2) from⟨cw Q3.out 0,cw Q3.out 1,cw Q3.out 2,cw Q3.out 3,cw Q3.out 4,cw Q3.out 5⟩)
  obtain⟨f0_,f1_,f2_,f3_,f4_,f5_⟩:=(show w3.cell? ⟨w.heap.size,0,U⟩=M (J U 0 0)/\w3.cell? ⟨w.heap.size,1,U⟩=M (aA false)/\w3.cell? ⟨w.heap.size,2,U⟩=M (V I 0)/\w3.cell? ⟨w.heap.size,3,U⟩=M (aA false)/\w3.cell? ⟨w.heap.size,4,U⟩=M (V I 0)/\w3.cell? ⟨w.heap.size,5,U⟩=M (J U 0 0) from⟨cw R3.out 0,cw R3.out 1,cw R3.out 2,cw R3.out 3,cw R3.out 4,cw R3.out 5⟩)
  obtain⟨z0_,z1_,z2_,z3_,z4_,z5_⟩:=(show w3.frozen? ⟨q,0,U⟩=false/\w3.frozen? ⟨q,1,U⟩=false/\w3.frozen? ⟨q,2,U⟩=false/\w3.frozen? ⟨q,3,U⟩=false/\w3.frozen? ⟨q,4,U⟩=false/\w3.frozen? ⟨q,5,U⟩=false from⟨jA Q3.out 0,jA Q3.out 1,jA Q3.out 2,jA Q3.out 3,jA Q3.out 4,jA Q3.out 5⟩)
  obtain⟨y0_,y1_,y2_,y3_,y4_,y5_⟩:=(show w3.frozen? ⟨w.heap.size,0,U⟩=false/\w3.frozen? ⟨w.heap.size,1,U⟩=false/\w3.frozen? ⟨w.heap.size,2,U⟩=false/\w3.frozen? ⟨w.heap.size,3,U⟩=false/\w3.frozen? ⟨w.heap.size,4,U⟩=false/\w3.frozen? ⟨w.heap.size,5,U⟩=false from⟨jA R3.out 0,jA R3.out 1,jA R3.out 2,jA R3.out 3,jA R3.out 4,jA R3.out 5⟩)
  clear hb3 e0_
  simp only[opV]
  go_upto_region 3 with fail
  have Q4:=AS (show((((w3.setCell ⟨q,2,U⟩ (V I n.cpu.op.block)).setCell ⟨q,3,U⟩ (aA n.cpu.op.write)).setCell ⟨q,4,U⟩ (V I n.cpu.op.value)).setCell ⟨q,1,U⟩ (aA n.cpu.busy)).heap[q]?=M (O #[J A1 m1 cp1,aA n.cpu.busy,V I n.cpu.op.block,aA n.cpu.op.write,V I n.cpu.op.value,J A2 m2 cp2] 53 (0,0)) from(by have q1:=mA Q3.out 2 (V I n.cpu.op.block);have q2:=mA q1 3 (aA n.cpu.op.write);have q3:=mA q2 4 (V I n.cpu.op.value);have q4:=mA q3 1 (aA n.cpu.busy);exact blk_as q4 zB))
  have KK:=AS (show KS (fun y=>y=q) w3 ((((w3.setCell ⟨q,2,U⟩ (V I n.cpu.op.block)).setCell ⟨q,3,U⟩ (aA n.cpu.op.write)).setCell ⟨q,4,U⟩ (V I n.cpu.op.value)).setCell ⟨q,1,U⟩ (aA n.cpu.busy)) from(by repeat (with_reducible first | exact qB _ _ | refine tB ?_ _ _ | apply KS.alloc | apply sB)))
  have R4:=AS (KK.out.at_ R3.out (fun e=>hq0 (Eq.symm e)))
  generalize ((((w3.setCell ⟨q,2,U⟩ (V I n.cpu.op.block)).setCell ⟨q,3,U⟩ (aA n.cpu.op.write)).setCell ⟨q,4,U⟩ (V I n.cpu.op.value)).setCell ⟨q,1,U⟩ (aA n.cpu.busy))=W4 at Q4 KK R4 ⊢
  clear e0_ f0_ z0_ y0_ e1_ f1_ z1_ y1_ e2_ f2_ z2_ y2_ e3_ f3_ z3_ y3_ e4_ f4_ z4_ y4_ e5_ f5_ z5_ y5_
  obtain⟨e0_,e1_,e2_,e3_,e4_,e5_⟩:=(show W4.cell? ⟨q,0,U⟩=M (J A1 m1 cp1)/\W4.cell? ⟨q,1,U⟩=M (aA n.cpu.busy)/\W4.cell? ⟨q,2,U⟩=M (V I n.cpu.op.block)/\W4.cell? ⟨q,3,U⟩=M (aA n.cpu.op.write)/\W4.cell? ⟨q,4,U⟩=M (V I n.cpu.op.value)/\W4.cell? ⟨q,5,U⟩=M (J A2 m2 cp2) from⟨cw Q4.out 0,cw Q4.out 1,cw Q4.out 2,cw Q4.out 3,cw Q4.out 4,cw Q4.out 5⟩)
  obtain⟨f0_,f1_,f2_,f3_,f4_,f5_⟩:=(show W4.cell? ⟨w.heap.size,0,U⟩=M (J U 0 0)/\W4.cell? ⟨w.heap.size,1,U⟩=M (aA false)/\W4.cell? ⟨w.heap.size,2,U⟩=M (V I 0)/\W4.cell? ⟨w.heap.size,3,U⟩=M (aA false)/\W4.cell? ⟨w.heap.size,4,U⟩=M (V I 0)/\W4.cell? ⟨w.heap.size,5,U⟩=M (J U 0 0) from⟨cw R4.out 0,cw R4.out 1,cw R4.out 2,cw R4.out 3,cw R4.out 4,cw R4.out 5⟩)
  obtain⟨y0_,y1_,y2_,y3_,y4_,y5_⟩:=(show W4.frozen? ⟨w.heap.size,0,U⟩=false/\W4.frozen? ⟨w.heap.size,1,U⟩=false/\W4.frozen? ⟨w.heap.size,2,U⟩=false/\W4.frozen? ⟨w.heap.size,3,U⟩=false/\W4.frozen? ⟨w.heap.size,4,U⟩=false/\W4.frozen? ⟨w.heap.size,5,U⟩=false from⟨jA R4.out 0,jA R4.out 1,jA R4.out 2,jA R4.out 3,jA R4.out 4,jA R4.out 5⟩)
  go_wp2
  have hlt:=eB QB.out
  have hs3:=B3.out.size
  have hs2:=BE2.out.size
  have hW4:=AS (show Below w.heap.size w W4 from(BE2.out.trans (B3.out.mono BE2.out.size)).trans (KK.out.toBelow (fun y hy=>by have hy':y=q:=hy;omega) vB))
  have BF:=AS (show Below w.heap.size w (((((((W4).setCell ⟨w.heap.size,0,U⟩ (J A1 m1 cp1)).setCell ⟨w.heap.size,1,U⟩ (aA n.cpu.busy)).setCell ⟨w.heap.size,2,U⟩ (V I n.cpu.op.block)).setCell ⟨w.heap.size,3,U⟩ (aA n.cpu.op.write)).setCell ⟨w.heap.size,4,U⟩ (V I n.cpu.op.value)).setCell ⟨w.heap.size,5,U⟩ (J A2 m2 cp2)) from by
   repeat (first | exact hW4.out | with_reducible refine oA ?_ (by dsimp only;omega) _))
  have KK5:=AS (show KS (fun y=>y=w.heap.size) W4 (((((((W4).setCell ⟨w.heap.size,0,U⟩ (J A1 m1 cp1)).setCell ⟨w.heap.size,1,U⟩ (aA n.cpu.busy)).setCell ⟨w.heap.size,2,U⟩ (V I n.cpu.op.block)).setCell ⟨w.heap.size,3,U⟩ (aA n.cpu.op.write)).setCell ⟨w.heap.size,4,U⟩ (V I n.cpu.op.value)).setCell ⟨w.heap.size,5,U⟩ (J A2 m2 cp2)) from(by repeat (with_reducible first | exact qB _ _ | refine tB ?_ _ _ | apply KS.alloc | apply sB)))
  have R5:=AS (show(((((((W4).setCell ⟨w.heap.size,0,U⟩ (J A1 m1 cp1)).setCell ⟨w.heap.size,1,U⟩ (aA n.cpu.busy)).setCell ⟨w.heap.size,2,U⟩ (V I n.cpu.op.block)).setCell ⟨w.heap.size,3,U⟩ (aA n.cpu.op.write)).setCell ⟨w.heap.size,4,U⟩ (V I n.cpu.op.value)).setCell ⟨w.heap.size,5,U⟩ (J A2 m2 cp2)).heap[w.heap.size]?=M (O #[J A1 m1 cp1,aA n.cpu.busy,V I n.cpu.op.block,aA n.cpu.op.write,V I n.cpu.op.value,J A2 m2 cp2] 53 (0,0)) from(by
   have q0:=mA R4.out 0 (J A1 m1 cp1)
   have q1:=mA q0 1 (aA n.cpu.busy)
   have q2:=mA q1 2 (V I n.cpu.op.block)
   have q3:=mA q2 3 (aA n.cpu.op.write)
   have q4:=mA q3 4 (V I n.cpu.op.value)
   have q5:=mA q4 5 (J A2 m2 cp2)
   exact blk_as q5 zB))
  generalize (((((((W4).setCell ⟨w.heap.size,0,U⟩ (J A1 m1 cp1)).setCell ⟨w.heap.size,1,U⟩ (aA n.cpu.busy)).setCell ⟨w.heap.size,2,U⟩ (V I n.cpu.op.block)).setCell ⟨w.heap.size,3,U⟩ (aA n.cpu.op.write)).setCell ⟨w.heap.size,4,U⟩ (V I n.cpu.op.value)).setCell ⟨w.heap.size,5,U⟩ (J A2 m2 cp2))=W5 at BF R5 KK5 ⊢
  obtain⟨g0_,g1_,g2_,g3_,g4_,g5_⟩:=(show W5.cell? ⟨w.heap.size,0,U⟩=M (J A1 m1 cp1)/\W5.cell? ⟨w.heap.size,1,U⟩=M (aA n.cpu.busy)/\W5.cell? ⟨w.heap.size,2,U⟩=M (V I n.cpu.op.block)/\W5.cell? ⟨w.heap.size,3,U⟩=M (aA n.cpu.op.write)/\W5.cell? ⟨w.heap.size,4,U⟩=M (V I n.cpu.op.value)/\W5.cell? ⟨w.heap.size,5,U⟩=M (J A2 m2 cp2) from⟨cw R5.out 0,cw R5.out 1,cw R5.out 2,cw R5.out 3,cw R5.out 4,cw R5.out 5⟩)
  refine yA (v:=placeV n (J A1 m1 cp1) (J A2 m2 cp2)) (by simp[results,Tryz.results38,go_sem,placeV,g0_,g1_,g2_,g3_,g4_,g5_]) rfl ?_
  exact⟨_,_,rfl,((L1.out.below B3.out (pA _)).ks KK.out (pA _) (fun x hx e=>FQ1.out x hx e)).ks KK5.out (pA _) (fun x hx e=>FR1.out x hx e),((L2.out.below B3.out (pA _)).ks KK.out (pA _) (fun x hx e=>FQ2.out x hx e)).ks KK5.out (pA _) (fun x hx e=>FR2.out x hx e),BF.out⟩
structure WPt where
 h:Nat
 y:Nat
 A:Option Addr
 cp:Nat
 ns:List Nat
def WPt.v (p:WPt):Value:=J p.A p.ns.length p.cp
def wldC (c:Cfg) (s:S.World) (p:WPt):Array Value:=#[V I c.nodes,V I c.blocks,V I c.tokens,V I c.sets,V I c.ways,V I c.cap,V I c.wait,V I c.tries,V I c.policy,
 V I s.steps,V I s.ticks,J p.A p.ns.length p.cp,bA (M ⟨p.h,0,U⟩),bA (M ⟨p.y,0,U⟩)]
def WldK (c:Cfg) (s:S.World) (b:Nat) (p:WPt) (K:Nat->Nat) (w:cA):Prop :=
 w.heap[b]?=M (O (wldC c s p) 91 (0,0))/\K b=0/\OwnE ptrE p.v (p.ns.map M) w/\(∀ x∈foot p.v,K x=1)/\HomeAt c s.home p.h (fun x=>K x=2) w/\NetAt c.cap s.way p.y (fun x=>K x=3) w /\
  p.ns.length=s.nodes.length/\p.ns.length≤64/\∀ i:Nat,i < p.ns.length->NodeAt c (s.nodes.getD i (S.Node.new i)) (p.ns.getD i 0) (fun x=>K x=4+i) w
def AllV (ls:List Let) (ds:List S.Done) (q:Nat) (vl vd:Value) (K:Nat->Nat) (w:cA):Prop :=
 w.heap[q]?=M (O #[vl,vd] 100 (0,0))/\OwnE letE vl ls w/\OwnE doneE vd ds w/\q∉foot vl/\q∉foot vd/\(∀ x∈foot vl,x∉foot vd)/\K q=101/\(∀ x∈foot vl,K x=101)/\∀ x∈foot vd,K x=101
def AllK (ls:List Let) (ds:List S.Done) (q:Nat) (K:Nat->Nat) (w:cA):Prop:=∃ vl vd,AllV ls ds q vl vd K w
section
variable {c:Cfg} {s s':S.World} {b q:Nat} {p:WPt} {K K':Nat->Nat} {w w' w1:cA} {G:Set_} {ls:List Let} {ds:List S.Done} {vl vd:Value}
theorem WldK.keep (h:WldK c s b p K w) (hk:KS G w w') (hs:∀ x,x < w.heap.size->K x < 100->K' x=K x/\¬ G x):WldK c s b p K' w':=by
 obtain⟨h1,h2,h3,h4,h5,h6,h7,h8,h9⟩:=h
 have e1:=hs b (eB h1) vB
 refine⟨hk.at_ h1 e1.2,e1.1.trans h2,h3.ks hk (fun x hx=>(hs x (h3.lt x hx) (by rw[h4 x hx];omega)).2),fun x hx=>(hs x (h3.lt x hx) (by rw[h4 x hx];omega)).1.trans (h4 x hx),h5.keep hk (fun x hx hF=>?_),h6.keep hk (fun x hx hF=>?_),h7,h8,fun i hi=>(h9 i hi).keep hk (fun x hx hF=>?_)⟩
 ·have hF':K x=2:=hF
  have:=hs x hx vB
  exact⟨this.1.trans hF',this.2⟩
 ·have hF':K x=3:=hF
  have:=hs x hx vB
  exact⟨this.1.trans hF',this.2⟩
 ·have hF':K x=4+i:=hF
  have:=hs x hx vB
  exact⟨this.1.trans hF',this.2⟩
theorem WldK.turn {k0:Nat} (h:WldK c s b p K w) (hk:KS (fun x=>K x=k0) w w') (hK:∀ x,x < w.heap.size->K' x=K x) (h0:2≤k0)
  (hst:s'.steps=s.steps/\s'.ticks=s.ticks) (hlen:s'.nodes.length=s.nodes.length)
  (hH:HomeAt c s'.home p.h (fun x=>K' x=2) w'∨(k0≠2/\s'.home=s.home)) (hN:NetAt c.cap s'.way p.y (fun x=>K' x=3) w'∨(k0≠3/\s'.way=s.way))
  (hns:∀ i:Nat,i < p.ns.length->NodeAt c (s'.nodes.getD i (S.Node.new i)) (p.ns.getD i 0) (fun x=>K' x=4+i) w'∨(k0≠4+i/\s'.nodes.getD i (S.Node.new i)=s.nodes.getD i (S.Node.new i))):WldK c s' b p K' w':=by
 obtain⟨h1,h2,h3,h4,h5,h6,h7,h8,h9⟩:=h
 have ne:∀ {x k:Nat},K x=k->k≠k0->¬ K x=k0:=fun h1 h2 h3=>h2 (h1.symm.trans h3)
 refine⟨?_,(hK b (eB h1)).trans h2,h3.ks hk (fun x hx=>ne (h4 x hx) vB),fun x hx=>(hK x (h3.lt x hx)).trans (h4 x hx),?_,?_,h7.trans hlen.symm,h8,fun i hi=>?_⟩
 ·have:=hk.at_ h1 (ne h2 vB)
  unfold wldC at this ⊢
  rw[hst.1,hst.2];exact this
 ·rcases hH with hH | ⟨e,hH⟩
  ·exact hH
  ·rw[hH];exact h5.keep hk (fun x hx hF=>⟨(hK x hx).trans hF,ne hF vB⟩)
 ·rcases hN with hN | ⟨e,hN⟩
  ·exact hN
  ·rw[hN];exact h6.keep hk (fun x hx hF=>⟨(hK x hx).trans hF,ne hF vB⟩)
 ·rcases hns i hi with hN | ⟨e,hN⟩
  ·exact hN
  ·rw[hN];exact(h9 i hi).keep hk (fun x hx hF=>⟨(hK x hx).trans hF,ne hF vB⟩)
theorem AllV.keep (h:AllV ls ds q vl vd K w) (hk:KS G w w') (hs:∀ x,x < w.heap.size->K x=101->K' x=101/\¬ G x):AllV ls ds q vl vd K' w':=by
 obtain⟨h1,h2,h3,h4,h5,h6,h7,h8,h9⟩:=h
 exact⟨hk.at_ h1 (hs q (eB h1) h7).2,h2.ks hk (fun x hx=>(hs x (h2.lt x hx) (h8 x hx)).2),h3.ks hk (fun x hx=>(hs x (h3.lt x hx) (h9 x hx)).2),h4,h5,h6,(hs q (eB h1) h7).1,fun x hx=>(hs x (h2.lt x hx) (h8 x hx)).1,fun x hx=>(hs x (h3.lt x hx) (h9 x hx)).1⟩
theorem AllK.keep (h:AllK ls ds q K w) (hk:KS G w w') (hs:∀ x,x < w.heap.size->K x=101->K' x=101/\¬ G x):AllK ls ds q K' w':=by
 obtain⟨vl,vd,h⟩:=h
 exact⟨vl,vd,h.keep hk hs⟩
theorem AllV.setL (h:AllV ls ds q vl vd K w) (hk:KS G w w1) (hG:∀ x,x < w.heap.size->K x=101->(G x->x∈foot vl)/\K' x=101) {v':Value} {ls':List Let} (hO:OwnE letE v' ls' w1)
  (hf:∀ x∈foot v',K' x=101/\(x∈foot vl∨w.heap.size≤x)):AllV ls' ds q v' vd K' (w1.setCell ⟨q,0,U⟩ v'):=by
 obtain⟨h1,h2,h3,h4,h5,h6,h7,h8,h9⟩:=h
 have hq:=eB h1
 have gq:=hG q hq h7
 have hqv:q∉foot v':=fun hx=>by
  rcases(hf q hx).2 with h | h
  ·exact h4 h
  ·omega
 have hk2:=KS.set (qB (fun x=>x=q) w1) (.inl rfl) 0 v' (g:=q)
 refine⟨(mA (hk.at_ h1 (fun e=>h4 (gq.1 e))) 0 v').trans zB,hO.ks hk2 (fun x hx e=>hqv (e ▸ hx)),(h3.ks hk (fun x hx e=>h6 x ((hG x (h3.lt x hx) (h9 x hx)).1 e) hx)).ks hk2 (fun x hx e=>h5 (e ▸ hx)),hqv,h5,fun x hx hd=>?_,gq.2,fun x hx=>(hf x hx).1,fun x hx=>(hG x (h3.lt x hx) (h9 x hx)).2⟩
 rcases(hf x hx).2 with h | h
 ·exact h6 x h hd
 ·have:=h3.lt x hd;omega
theorem AllV.setD (h:AllV ls ds q vl vd K w) (hk:KS G w w1) (hG:∀ x,x < w.heap.size->K x=101->(G x->x∈foot vd)/\K' x=101) {v':Value} {ds':List S.Done} (hO:OwnE doneE v' ds' w1)
  (hf:∀ x∈foot v',K' x=101/\(x∈foot vd∨w.heap.size≤x)):AllV ls ds' q vl v' K' (w1.setCell ⟨q,1,U⟩ v'):=by
 obtain⟨h1,h2,h3,h4,h5,h6,h7,h8,h9⟩:=h
 have hq:=eB h1
 have gq:=hG q hq h7
 have hqv:q∉foot v':=fun hx=>by
  rcases(hf q hx).2 with h | h
  ·exact h5 h
  ·omega
 have hk2:=KS.set (qB (fun x=>x=q) w1) (.inl rfl) 1 v' (g:=q)
 refine⟨(mA (hk.at_ h1 (fun e=>h5 (gq.1 e))) 1 v').trans zB,(h2.ks hk (fun x hx e=>h6 x hx ((hG x (h2.lt x hx) (h8 x hx)).1 e))).ks hk2 (fun x hx e=>h4 (e ▸ hx)),hO.ks hk2 (fun x hx e=>hqv (e ▸ hx)),h4,hqv,fun x hx hd=>?_,gq.2,fun x hx=>(hG x (h2.lt x hx) (h8 x hx)).2,fun x hx=>(hf x hx).1⟩
 rcases(hf x hd).2 with h | h
 ·exact h6 x hx h
 ·have:=h2.lt x hx;omega
end
def WA (c:Cfg) (s:S.World) (b:Nat) (p:WPt) (ls:List Let) (ds:List S.Done) (q:Nat) (K:Nat->Nat) (w:cA):Prop:=WldK c s b p K w/\AllK ls ds q K w
section
variable {c:Cfg} {s s':S.World} {b q:Nat} {p:WPt} {K K':Nat->Nat} {w w' w1:cA} {G:Set_} {ls:List Let} {ds:List S.Done} {vl vd:Value}
theorem WA.keep (h:WA c s b p ls ds q K w) (hk:KS G w w') (hs:∀ x,x < w.heap.size->K x≤101->K' x=K x/\¬ G x):WA c s b p ls ds q K' w' :=
 ⟨h.1.keep hk (fun x hx h=>hs x hx vB),h.2.keep hk (fun x hx h=>by have:=hs x hx vB;exact⟨this.1.trans h,this.2⟩)⟩
theorem WA.below (h:WA c s b p ls ds q K w) (hb:Below w.heap.size w w'):WA c s b p ls ds q (rec_ K w 200) w':=h.keep (pB (fun _=>False) hb) (fun x hx _=>⟨jB hx,id⟩)
def WP (v:Value) (c:Cfg) (s:S.World) (b:Nat) (p:WPt) (ls:List Let) (ds:List S.Done) (q:Nat) (K:Nat->Nat) (w:cA) (e:Ending) (w':cA):Prop:=e=.returned v/\∃ K',(∀ x,x < w.heap.size->K' x=K x)/\WA c s b p ls ds q K' w'/\KS (fun x=>K x≤101) w w'
def NAt (v:Value->Value->Value) (c:Cfg) (n:S.Node) (o:S.Out) (b:Nat) (F:Set_) (w:cA) (e:Ending) (w':cA):Prop :=
 ∃ A1 c1 A2 c2 G,e=.returned (v (J A1 o.letters.length c1) (J A2 o.done.length c2))/\NodeAt c n b G w'/\(∀ x,x < w.heap.size->G x->F x)/\OwnE letE (J A1 o.letters.length c1) o.letters w'/\OwnE doneE (J A2 o.done.length c2) o.done w'/\(∀ x∈foot (J A1 o.letters.length c1),w.heap.size≤x/\¬ G x)/\(∀ x∈foot (J A2 o.done.length c2),w.heap.size≤x/\¬ G x)/\KS F w w'
theorem NodeAt.opened {n:S.Node} {F:Set_} (h:NodeAt c n b F w):∃ (P:NPtr) (K:Nat->Nat),P.b=b/\NodeK c n P K w/\(∀ x,x < w.heap.size->K x≤5->F x)/\∀ x,x < w.heap.size->K x≠6:=by
 obtain⟨P,K,h1,h2,h3⟩:=h
 refine⟨P,fun x=>if K x≤5 then K x else 7,h1,h2.keep (qB (fun _=>False) w) (fun x _ h5=>⟨if_pos h5,id⟩),fun x hx h5=>?_,fun x hx=>?_⟩
 ·by_cases q:K x≤5
  ·exact h3 x hx q
  ·simp only[if_neg q] at h5;omega
 ·by_cases q:K x≤5
  ·simp only[if_pos q];omega
  ·simp only[if_neg q];omega
theorem NRes.at_ {v:Value->Value->Value} {n:S.Node} {o:S.Out} {P:NPtr} {F:Set_} {e:Ending} (hF:∀ x,x < w.heap.size->K x≤5->F x) (h:NRes v c n o P K w e w'):NAt v c n o P.b F w e w':=by
 obtain⟨vl,vd,K',he,hK,hN,h1,h2,h3,h4,h5⟩:=h
 obtain⟨A1,c1,rfl,-⟩:=h1.row
 obtain⟨A2,c2,rfl,-⟩:=h2.row
 exact⟨A1,c1,A2,c2,fun x=>K' x≤5,he,⟨P,K',rfl,hN,fun x _ h=>h⟩,fun x hx hG=>hF x hx (by rw[<- hK x hx];exact hG),h1,h2,fun x hx=>⟨(h3 x hx).1,by have:=(h3 x hx).2;omega⟩,fun x hx=>⟨(h4 x hx).1,by have:=(h4 x hx).2;omega⟩,h5.mono (fun x hx h=>hF x hx h)⟩
theorem nodeIssue_at {n:S.Node} {F:Set_} (h:NodeAt c n b F w) (op:S.Op) (d:Drw):bB dA 54 #[bA (M ⟨b,0,U⟩),opV op,drwV d] w (NAt (fun a b=>.tuple #[.agg #[a,b],aA (n.issue c op d).2.2]) c (n.issue c op d).1 (n.issue c op d).2.1 b F w):=by
 obtain⟨P,K,rfl,hN,hF,h6⟩:=h.opened
 exact(nodeIssue_any hN h6 op d).mono fun e w' h=>NRes.at_ hF h
theorem nodeTake_at {n:S.Node} {F:Set_} (h:NodeAt c n b F w) (l:Let) (d:Drw):bB dA 60 #[bA (M ⟨b,0,U⟩),letV l,drwV d] w (NAt (fun a b=>.agg #[a,b]) c (n.take c l d).1 (n.take c l d).2 b F w):=by
 obtain⟨P,K,rfl,hN,hF,h6⟩:=h.opened
 exact(nodeTake_any hN h6 l d).mono fun e w' h=>NRes.at_ hF h
theorem nodeTick_at {n:S.Node} {F:Set_} (h:NodeAt c n b F w) (hw0:0≤c.wait) (hw1:c.wait≤64) (d:Drw):bB dA 64 #[bA (M ⟨b,0,U⟩),drwV d] w (NAt (fun a b=>.agg #[a,b]) c (n.tick c d).1 (n.tick c d).2 b F w):=by
 obtain⟨P,K,rfl,hN,hF,h6⟩:=h.opened
 exact(nodeTick_any hN h6 hw0 hw1 d).mono fun e w' h=>NRes.at_ hF h
def HAt (c:Cfg) (h:S.Home) (ls:List Let) (b:Nat) (F:Set_) (w:cA) (e:Ending) (w':cA):Prop :=
 ∃ A1 c1 G,e=.returned (J A1 ls.length c1)/\HomeAt c h b G w'/\(∀ x,x < w.heap.size->G x->F x)/\OwnE letE (J A1 ls.length c1) ls w'/\(∀ x∈foot (J A1 ls.length c1),w.heap.size≤x/\¬ G x)/\KS F w w'
theorem homeTake_at {h:S.Home} {F:Set_} (hH:HomeAt c h b F w) (hql:∀ r∈h.queue.rows,r.queue.length≤1000000) (l:Let) (d:Drw):bB dA 58 #[bA (M ⟨b,0,U⟩),letV l,drwV d] w (HAt c (h.take c l d).1 (h.take c l d).2 b F w):=by
 obtain⟨bm,bq,K,hK,hF⟩:=hH
 refine(homeTake_any hK hql l d).mono ?_
 rintro e w' ⟨v,K',he,hK1,hN,hO,hf,hk⟩
 obtain⟨A1,c1,rfl,-⟩:=hO.row
 exact⟨A1,c1,fun x=>K' x≤2,he,⟨bm,bq,K',hN,fun x _ h=>h⟩,fun x hx hG=>hF x hx (by rw[<- hK1 x hx];exact hG),hO,fun x hx=>⟨(hf x hx).1,by have:=(hf x hx).2;omega⟩,hk.mono (fun x hx h=>hF x hx h)⟩
open Classical in
noncomputable def recG (K:Nat->Nat) (w:cA) (G:Set_) (k:Nat):Nat->Nat:=fun x=>if x < w.heap.size then K x else if G x then k else 200
theorem recG_old {x k:Nat} (h:x < w.heap.size):recG K w G k x=K x:=if_pos h
theorem recG_in {x k:Nat} (h:w.heap.size≤x) (hG:G x):recG K w G k x=k:=by unfold recG;rw[if_neg vB,if_pos hG]
theorem recG_out {x k:Nat} (h:w.heap.size≤x) (hG:¬ G x):recG K w G k x=200:=by unfold recG;rw[if_neg vB,if_neg hG]
theorem recG_has {x k:Nat} (hx:G x) (hG:x < w.heap.size->K x=k):recG K w G k x=k:=by
 by_cases h:x < w.heap.size
 ·rw[recG_old h];exact hG h
 ·exact recG_in vB hx
theorem WA.node {i:Nat} {n':S.Node} (h:WA c s b p ls ds q K w) (hi:i < p.ns.length) (hN:NodeAt c n' (p.ns.getD i 0) G w') (hG:∀ x,x < w.heap.size->G x->K x=4+i) (hk:KS (fun x=>K x=4+i) w w') :
  WA c { s with nodes:=s.nodes.set i n' } b p ls ds q (recG K w G (4+i)) w':=by
 have hlen:=h.1.2.2.2.2.2.2.1
 have h64:=h.1.2.2.2.2.2.2.2.1
 refine⟨h.1.turn hk (fun x hx=>recG_old hx) vB ⟨rfl,rfl⟩ zB (.inr ⟨vB,rfl⟩) (.inr ⟨vB,rfl⟩) (fun j hj=>?_),h.2.keep hk (fun x hx h=>⟨(recG_old hx).trans h,by show ¬ K x=_;omega⟩)⟩
 by_cases e:j=i
 ·subst e
  refine .inl ?_
  have:(s.nodes.set j n').getD j (S.Node.new j)=n':=by rw[getD_set,if_pos ⟨rfl,vB⟩]
  show NodeAt c ((s.nodes.set j n').getD j (S.Node.new j)) _ _ _
  rw[this]
  exact hN.keep (qB (fun _=>False) _) (fun x _ hx=>⟨recG_has hx (fun h=>hG x h hx),id⟩)
 ·refine .inr ⟨vB,?_⟩
  show(s.nodes.set i n').getD j (S.Node.new j)=_
  rw[getD_set,if_neg (fun q=>e q.1.symm)]
theorem WA.home {h':S.Home} (h:WA c s b p ls ds q K w) (hN:HomeAt c h' p.h G w') (hG:∀ x,x < w.heap.size->G x->K x=2) (hk:KS (fun x=>K x=2) w w') :
  WA c { s with home:=h' } b p ls ds q (recG K w G 2) w' :=
 ⟨h.1.turn hk (fun x hx=>recG_old hx) vB ⟨rfl,rfl⟩ rfl (.inl (hN.keep (qB (fun _=>False) _) (fun x _ hx=>⟨recG_has hx (fun h=>hG x h hx),id⟩))) (.inr ⟨vB,rfl⟩) (fun j hj=>.inr ⟨vB,rfl⟩),h.2.keep hk (fun x hx h=>⟨(recG_old hx).trans h,by show ¬ K x=_;omega⟩)⟩
theorem WA.net {xs:List Let} (h:WA c s b p ls ds q K w) (hN:NetAt c.cap xs p.y (gr (fun x=>K x=3) w) w') (hk:KS (fun x=>K x=3) w w') :
  WA c { s with way:=xs } b p ls ds q (rec_ K w 3) w' :=
 ⟨h.1.turn hk (fun x hx=>jB hx) vB ⟨rfl,rfl⟩ rfl (.inr ⟨vB,rfl⟩) (.inl (hN.keep (qB (fun _=>False) _) (fun x _ hx=>⟨by
  show rec_ K w 3 x=3
  rcases hx with hx | hx
  ·by_cases hl:x < w.heap.size
   ·rw[jB hl];exact hx
   ·exact rec_new vB
  ·exact rec_new hx,id⟩))) (fun j hj=>.inr ⟨vB,rfl⟩),h.2.keep hk (fun x hx h=>⟨(jB hx).trans h,by show ¬ K x=_;omega⟩)⟩
theorem WldK.num (h:WldK c s b p K w) (i:Nat) (u:Value) (st tk:Int) (hu:(wldC c s p).setIfInBounds i u=wldC c { s with steps:=st,ticks:=tk } p):WldK c { s with steps:=st,ticks:=tk } b p K (w.setCell ⟨b,i,U⟩ u):=by
 obtain⟨h1,h2,h3,h4,h5,h6,h7,h8,h9⟩:=h
 have hk:=KS.set (qB (fun x=>x=b) w) (.inl rfl) i u (g:=b)
 have ne:∀ {x k:Nat},K x=k->k≠0->¬ x=b:=fun e1 e2 e3=>e2 (by rw[e3,h2] at e1;exact e1.symm)
 exact⟨hu ▸ mA h1 i u,h2,h3.ks hk (fun x hx=>ne (h4 x hx) vB),h4,h5.keep hk (fun x hx hF=>⟨hF,ne hF vB⟩),h6.keep hk (fun x hx hF=>⟨hF,ne hF vB⟩),h7,h8,fun i hi=>(h9 i hi).keep hk (fun x hx hF=>⟨hF,ne hF vB⟩)⟩
theorem WA.num (h:WA c s b p ls ds q K w) (i:Nat) (u:Value) (st tk:Int) (hu:(wldC c s p).setIfInBounds i u=wldC c { s with steps:=st,ticks:=tk } p):WA c { s with steps:=st,ticks:=tk } b p ls ds q K (w.setCell ⟨b,i,U⟩ u) :=
 ⟨h.1.num i u st tk hu,h.2.keep (KS.set (qB (fun x=>x=b) w) (.inl rfl) i u (g:=b)) (fun x hx e=>⟨e,fun e2=>by rw[e2,h.1.2.1] at e;omega⟩)⟩
theorem WldK.cells (h:WldK c s b p K w):w.cell? ⟨b,0,U⟩=M (V I c.nodes)/\w.cell? ⟨b,1,U⟩=M (V I c.blocks)/\w.cell? ⟨b,2,U⟩=M (V I c.tokens)/\w.cell? ⟨b,3,U⟩=M (V I c.sets)/\w.cell? ⟨b,4,U⟩=M (V I c.ways)/\w.cell? ⟨b,5,U⟩=M (V I c.cap)/\w.cell? ⟨b,6,U⟩=M (V I c.wait)/\w.cell? ⟨b,7,U⟩=M (V I c.tries)/\w.cell? ⟨b,8,U⟩=M (V I c.policy)/\w.cell? ⟨b,9,U⟩=M (V I s.steps)/\w.cell? ⟨b,10,U⟩=M (V I s.ticks)/\w.cell? ⟨b,11,U⟩=M (J p.A p.ns.length p.cp)/\w.cell? ⟨b,12,U⟩=M (bA (M ⟨p.h,0,U⟩))/\w.cell? ⟨b,13,U⟩=M (bA (M ⟨p.y,0,U⟩)):=⟨cw h.1 0,cw h.1 1,cw h.1 2,cw h.1 3,cw h.1 4,cw h.1 5,cw h.1 6,cw h.1 7,cw h.1 8,cw h.1 9,cw h.1 10,cw h.1 11,cw h.1 12,cw h.1 13⟩
theorem WldK.ptr (h:WldK c s b p K w) {i:Nat} (hi:i < p.ns.length):∃ g,p.A=M ⟨g,0,U⟩/\w.cell? ⟨g,i,U⟩=M (bA (M ⟨p.ns.getD i 0,0,U⟩)):=by
 obtain⟨g,cap,e,_,_,_,hc⟩:=own_some h.2.2.1 (i:=i) (by simpa using hi)
 unfold WPt.v at e
 injection e with e1 e2 e3
 refine⟨g,e1,?_⟩
 have:=hc 0 yB
 simpa [ptrE,List.getD,hi] using this
end
theorem draws_any (k a b c d:Int) (w:cA):bB dA 59 #[.agg #[V I k,V I a,V I b,V I c,V I d]] w (RV (drwV ⟨b,c,d⟩) w):=by
 go_enter Tryz.func59,Tryz.ntmps59
 go_wp2
 exact yA (v:=drwV ⟨b,c,d⟩) (by simp[results,Tryz.results59,go_sem,drwV]) rfl ⟨rfl,by repeat (first | with_reducible exact fA _ _ | with_reducible apply eA | with_reducible refine oA ?_ (by dsimp only;omega) _)⟩
theorem add_aux {ls ls2:List Let} {ds ds2:List S.Done} {q:Nat} {A1 A2 B1 B2:Option Addr} {n1 c1 n2 c2 m1 e1 m2 e2:Nat} {K:Nat->Nat} {w:cA} (hA:AllV ls ds q (J A1 n1 c1) (J A2 n2 c2) K w) (h1:OwnE letE (J B1 m1 e1) ls2 w) (h2:OwnE doneE (J B2 m2 e2) ds2 w) (hf2:∀ x∈foot (J B2 m2 e2),K x≠101)
  (hl:ls.length+ls2.length≤1000000000000) (hd:ds.length+ds2.length≤1000000000000):bB dA 56 #[bA (M ⟨q,0,U⟩),.agg #[J B1 m1 e1,J B2 m2 e2]] w (fun e w'=>e=.returned (.tuple #[])/\AllK (ls ++ ls2) (ds ++ ds2) q (rec_ K w 101) w'/\KS (fun x=>K x=101) w w'):=by
 have hlt1:=hA.2.1.lt
 have hlt2:=hA.2.2.1.lt
 have hq:=eB hA.1
 have HA:=AS hA
 have hm1:m1=ls2.length:=by obtain⟨A,c,e,-⟩:=h1.row;injection e
 have hm2:m2=ds2.length:=by obtain⟨A,c,e,-⟩:=h2.row;injection e
 subst hm1 hm2
 have BX:=AS (nA w (O #[J B1 ls2.length e1,J B2 ds2.length e2] 138))
 have BE:=AS (eA (fA w.heap.size w) (O #[J B1 ls2.length e1,J B2 ds2.length e2] 138))
 have SZ:=AS (gB w (O #[J B1 ls2.length e1,J B2 ds2.length e2] 138))
 have O2:=AS h2
 have R1:=AS (show ∀ X,Below w.heap.size w X->RowE letE X B1 ls2 from fun X hb=>by
  obtain⟨A,c,e,hr,-⟩:=h1.row
  injection e with e1 e2 e3
  subst e1
  exact hr.below hb)
 have HL:=AS (qA hl hd)
 have HF:=AS hf2
 clear hA h1 h2 hl hd hf2
 go_enter Tryz.func56,Tryz.ntmps56
 go_upto_region 1 with fail
 generalize w.alloc (O #[J B1 ls2.length e1,J B2 ds2.length e2] 138)=W at BX BE SZ ⊢
 have HAW:=AS (HA.out.keep (K':=rec_ K w 101) (pB (fun _=>False) BE.out) (fun x hx h=>⟨by rw[jB hx];exact h,id⟩))
 have c0:=cw HAW.out.1 0 (v:=J A1 n1 c1)
 have z0:=jA HAW.out.1 0
 have d0:=cw BX.out 0 (v:=J B1 ls2.length e1)
 have c0':W.drew.cell? ⟨q,0,U⟩=M (J A1 n1 c1):=c0
 have z0':W.drew.frozen? ⟨q,0,U⟩=false:=z0
 have d0':W.drew.cell? ⟨w.heap.size,0,U⟩=M (J B1 ls2.length e1):=d0
 go_cut [] (fun wx=>∃ A1' n1' c1',AllV (ls ++ ls2) ds q (J A1' n1' c1') (J A2 n2 c2) (rec_ K w 101) wx/\KS (fun x=>x=q∨x∈foot (J A1 n1 c1)) W wx)
 case first =>
  have OA:=AS (show OwnE letE (J A1 n1 c1) ls W.drew from HAW.out.2.1)
  have RA:=AS (show RowE letE W.drew B1 ls2 from R1.out W.drew (iA BE.out))
  go_region_law (first | (refine step_appE (E:=letE) (xs:=ls) (ys:=ls2) xB _ _ rfl rfl rfl rfl (by exact OA.out) (by exact RA.out) (by have:=HL.out.1;show _ * 80≤_;omega) ?_;intro v1 w1 hO hK hf;have KK:=AS (show KS (fun x=>x∈foot (J A1 n1 c1)) W w1 from KS.keeps hK);have OO:=AS hO;have FF:=AS (show ∀ x∈foot v1,x∈foot (J A1 n1 c1)∨W.heap.size≤x from by intro x hx;rcases hf with e | e;exact .inl (by rw[e] at hx;exact hx);exact .inr (by rw[e] at hx;simp only[tA,iB] at hx;omega));obtain⟨A3,n3,k3,rfl⟩:∃ A n c,v1=J A n c:=(by obtain⟨A,c,h,_⟩:=OwnE.row hO;exact⟨_,_,_,h⟩);clear hO hK hf;have Y1:=AS (KK.out.at_ HAW.out.1 HAW.out.2.2.2.1);have y2:=jA Y1.out 0;have y3:w1.cell? ⟨q,0,U⟩=M (J A1 n1 c1):=cw Y1.out 0))
  all_goals
   go_wp2_with fail
   go_meet
   have hs:=SZ.out
   refine⟨_,_,_,HAW.out.setL KK.out (fun x hx h=>⟨fun h=>h,h⟩) OO.out (fun x hx=>⟨?_,FF.out x hx⟩),(KK.out.mono (fun x _ h=>.inr h)).set (.inl (.inl rfl)) 0 _⟩
   rcases FF.out x hx with h | h
   ·rw[jB (hlt1 x h)];exact HA.out.2.2.2.2.2.2.2.1 x h
   ·exact rec_new vB
 case rest =>
  obtain⟨A1',n1',c1',hV,hk⟩:=hcut
  have HV:=AS hV
  have HK:=AS hk
  clear c0 z0 d0 c0' z0' d0' hV hk
  have hsz:=SZ.out
  have c1_:=cw HV.out.1 1 (v:=J A2 n2 c2)
  have z1:=jA HV.out.1 1
  have BW:=AS (HK.out.at_ BX.out (fun e=>by
   rcases e with e | e
   ·omega
   ·have:=hlt1 _ e;omega))
  have d1:=cw BW.out 1 (v:=J B2 ds2.length e2)
  have hfar:∀ x∈foot (J B2 ds2.length e2),x≠q/\x∉foot (J A1 n1 c1):=fun x hx=>⟨fun e=>HF.out x hx (by rw[e];exact HA.out.2.2.2.2.2.2.1),fun h=>HF.out x hx (HA.out.2.2.2.2.2.2.2.1 x h)⟩
  have O2W:=AS (show OwnE doneE (J B2 ds2.length e2) ds2 wc.drew from(O2.out.ks (pB (fun _=>False) BE.out) (fun _ _=>id)).ks HK.out (fun x hx h=>by
   rcases h with h | h
   ·exact(hfar x hx).1 h
   ·exact(hfar x hx).2 h))
  clear hfar
  have c1':wc.drew.cell? ⟨q,1,U⟩=M (J A2 n2 c2):=c1_
  have z1':wc.drew.frozen? ⟨q,1,U⟩=false:=z1
  have d1':wc.drew.cell? ⟨w.heap.size,1,U⟩=M (J B2 ds2.length e2):=d1
  go_upto_region 2 with fail
  have OA:=AS (show OwnE doneE (J A2 n2 c2) ds wc.drew from HV.out.2.2.1)
  have RA:=AS (show RowE doneE wc.drew B2 ds2 from by
   obtain⟨A,c,e,hr,-⟩:=O2W.out.row
   injection e with e1 e2 e3
   subst e1
   exact hr)
  have hlt2':=HV.out.2.2.1.lt
  go_region_law (first | (refine step_appE (E:=doneE) (xs:=ds) (ys:=ds2) xB _ _ rfl rfl rfl rfl (by exact OA.out) (by exact RA.out) (by have:=HL.out.2;show _ * 56≤_;omega) ?_;intro v1 w1 hO hK hf;have KK:=AS (show KS (fun x=>x∈foot (J A2 n2 c2)) wc w1 from KS.keeps hK);have OO:=AS hO;have FF:=AS (show ∀ x∈foot v1,x∈foot (J A2 n2 c2)∨wc.heap.size≤x from by intro x hx;rcases hf with e | e;exact .inl (by rw[e] at hx;exact hx);exact .inr (by rw[e] at hx;simp only[tA,iB] at hx;omega));obtain⟨A3,n3,k3,rfl⟩:∃ A n c,v1=J A n c:=(by obtain⟨A,c,h,_⟩:=OwnE.row hO;exact⟨_,_,_,h⟩);clear hO hK hf;have Y1:=AS (KK.out.at_ HV.out.1 HV.out.2.2.2.2.1);have y2:=jA Y1.out 1;have y3:w1.cell? ⟨q,1,U⟩=M (J A2 n2 c2):=cw Y1.out 1))
  all_goals
   go_wp2
   go_end0
   have hs2:=HK.out.size
   refine⟨rfl,⟨_,_,HV.out.setD KK.out (fun x hx h=>⟨fun h=>h,h⟩) OO.out (fun x hx=>⟨?_,FF.out x hx⟩)⟩,?_⟩
   ·rcases FF.out x hx with h | h
    ·rw[jB (hlt2 x h)];exact HA.out.2.2.2.2.2.2.2.2 x h
    ·exact rec_new vB
   ·have hV:=HA.out
    have hk1:KS (fun x=>K x=101) w wc:=(pB _ BE.out).trans HK.out (fun x _ h=>by
     rcases h with h | h
     ·show K x=101;rw[h];exact hV.2.2.2.2.2.2.1
     ·exact hV.2.2.2.2.2.2.2.1 x h)
    refine(hk1.trans KK.out (fun x hx h=>hV.2.2.2.2.2.2.2.2 x h)).set (.inl (show K q=101 from hV.2.2.2.2.2.2.1)) 1 _
theorem add_any {ls ls2:List Let} {ds ds2:List S.Done} {q:Nat} {B1 B2:Option Addr} {m1 e1 m2 e2:Nat} {K:Nat->Nat} {w:cA} (hA:AllK ls ds q K w) (h1:OwnE letE (J B1 m1 e1) ls2 w) (h2:OwnE doneE (J B2 m2 e2) ds2 w) (hf2:∀ x∈foot (J B2 m2 e2),K x≠101)
  (hl:ls.length+ls2.length≤1000000000000) (hd:ds.length+ds2.length≤1000000000000):bB dA 56 #[bA (M ⟨q,0,U⟩),.agg #[J B1 m1 e1,J B2 m2 e2]] w (fun e w'=>e=.returned (.tuple #[])/\AllK (ls ++ ls2) (ds ++ ds2) q (rec_ K w 101) w'/\KS (fun x=>K x=101) w w'):=by
 obtain⟨vl,vd,hV⟩:=hA
 obtain⟨A1,c1,rfl,-⟩:=hV.2.1.row
 obtain⟨A2,c2,rfl,-⟩:=hV.2.2.1.row
 exact add_aux hV h1 h2 hf2 hl hd
theorem WA.add {c:Cfg} {s:S.World} {b:Nat} {p:WPt} {ls ls2:List Let} {ds ds2:List S.Done} {q:Nat} {B1 B2:Option Addr} {m1 e1 m2 e2:Nat} {K:Nat->Nat} {w:cA} (hW:WA c s b p ls ds q K w) (h1:OwnE letE (J B1 m1 e1) ls2 w) (h2:OwnE doneE (J B2 m2 e2) ds2 w) (hf2:∀ x∈foot (J B2 m2 e2),K x≠101)
  (hl:ls.length+ls2.length≤1000000000000) (hd:ds.length+ds2.length≤1000000000000):bB dA 56 #[bA (M ⟨q,0,U⟩),.agg #[J B1 m1 e1,J B2 m2 e2]] w (WP (.tuple #[]) c s b p (ls ++ ls2) (ds ++ ds2) q K w):=by
 refine(add_any hW.2 h1 h2 hf2 hl hd).mono ?_
 rintro e w' ⟨he,hA,hk⟩
 exact⟨he,rec_ K w 101,fun x hx=>jB hx,⟨hW.1.keep hk (fun x hx h=>⟨jB hx,by show ¬ K x=101;omega⟩),hA⟩,hk.mono (fun x _ h=>by have h':K x=101:=h;show K x≤101;omega)⟩
end Go.Proofs.YtiebppkhaiofeaaGreat.K
