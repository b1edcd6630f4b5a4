/- Part of the proof of TopPolicies: what functions of the program do. -/
import Derived.Test.YtiebppkhaiofeaaGreatP09
import Derived.Test.YtiebppkhaiofeaaGreatP00
set_option maxHeartbeats 4000000
set_option maxRecDepth 100000
set_option linter.unusedVariables false
set_option linter.unusedSimpArgs false
open Go.IntKind renaming i64→I
open Go.Value renaming slice→J, int→V, bool→aA, pointer→bA
open Option renaming some→M, none→U
open Go.Obj renaming cells→O
open Go renaming Calls→bB, World→cA, bodyPost_ret→yA
open List renaming getD_eq_getElem?_getD→cB, getElem?_eq_getElem→dB, mem_cons_of_mem→kB, mem_cons_self→wA
open Go.Proofs.Tryz renaming prog→dA
open Go.Proofs.YtiebppkhaiofeaaGreatW.PrintWords renaming below_alloc→eA, blk_frozen→jA, blk_below→kA, blk_alloc→lA, blk_set→mA, blk_new→nA
open Go.RowKit.Below renaming refl→fA, drew→iA
open Nat renaming le_refl→pA
open Go.Proofs.YtiebppkhaiofeaaGreat.K.KS renaming below→pB, refl→qB, drew→sB, set1→tB
open And renaming intro→qA
open Bool renaming false_eq_true→vA
namespace Go.Proofs.YtiebppkhaiofeaaGreat.K
open Go.RowKit Go.Proofs.YtiebppkhaiofeaaGreatW.PrintWords Go.Proofs.YtiebppkhaiofeaaGreat.S
attribute [local go_sem] World.cell?_alloc_some
open Go.ChangeMaps Go.MapKept
theorem end_len (c:Cfg) (n:S.Node) (b:Int) (o:S.Out):(n.end_ c b o).2.letters.length≤o.letters.length+1/\(n.end_ c b o).2.done=o.done:=by
 unfold Node.end_
 cases n.own b with
 | none=>exact⟨by show o.letters.length≤_;omega,rfl⟩
 | some a =>
  by_cases q:a.seq≤n.told b
  ·simp only[if_pos q];exact⟨vB,trivial⟩
  ·simp only[if_neg q,Out.send];exact⟨zB,trivial⟩
theorem settle_len (c:Cfg) (n:S.Node) (o:S.Out):(n.settle c o).2.letters.length≤o.letters.length+1/\(n.settle c o).2.done.length≤o.done.length+1:=by
 unfold Node.settle
 split
 ·exact⟨by show o.letters.length≤_;omega,by show o.done.length≤_;omega⟩
 ·simp only
  split
  ·exact⟨by show o.letters.length≤_;omega,by show o.done.length≤_;omega⟩
  ·have:=end_len c ({ n with lines:=(n.lines.doIt c n.cpu.op).1,cpu:=n.cpu.finish.1 }:S.Node) n.cpu.op.block { o with done:=o.done ++ [(⟨n.id,n.cpu.finish.2.1,n.cpu.op,(n.lines.doIt c n.cpu.op).2.1,0⟩:S.Done)]}
   refine⟨this.1,?_⟩
   rw[this.2];simp
theorem pissue_no {c:Cfg} {p:S.Proc} {op:S.Op} (h:(p.issue c op).2=false):(p.issue c op).1=p:=by
 unfold Proc.issue at *
 split at h
 ·rename_i q;rw[if_pos q]
 ·cases h
theorem nodeIssue_aux {c:Cfg} {n:S.Node} {p:NPtr} {K:Nat->Nat} {w:cA} (hN:NodeK c n p K w) (hpq:p.q=w.heap.size+3) (h6:∀ x,x < w.heap.size->K x≠6) (op:S.Op) (d:Drw):bB dA 54 #[bA (M ⟨p.b,0,U⟩),opV op,drwV d] w (NRes (fun a b=>.tuple #[.agg #[a,b],aA (n.issue c op d).2.2]) c (n.issue c op d).1 (n.issue c op d).2.1 p K w):=by
 obtain⟨d0,d1,d2⟩:=d
 obtain⟨ob,ow,ov⟩:=op
 have H6:=AS h6
 have e1:(w.alloc (O #[V I ob,aA ow,V I ov] 50)).heap.size=w.heap.size+1:=by simp
 have e2:((w.alloc (O #[V I ob,aA ow,V I ov] 50)).alloc (O #[V I d0,V I d1,V I d2] 74)).heap.size=w.heap.size+2:=by simp
 have e3:(((w.alloc (O #[V I ob,aA ow,V I ov] 50)).alloc (O #[V I d0,V I d1,V I d2] 74)).alloc (O #[J U 0 0,J U 0 0] 138)).heap.size=w.heap.size+3:=by simp
 have N1:=AS (hN.start (W:=((((w.alloc (O #[V I ob,aA ow,V I ov] 50)).alloc (O #[V I d0,V I d1,V I d2] 74)).alloc (O #[J U 0 0,J U 0 0] 138)).alloc (O #[J U 0 0,J U 0 0] 138))) (q:=w.heap.size+3) (eA (eA (eA (eA (fA _ _) _) _) _) _) vB (by rw[<- e3];exact nA _ _) [(w.heap.size+2,(O #[J U 0 0,J U 0 0] 138:Obj)),(w.heap.size+1,(O #[V I d0,V I d1,V I d2] 74:Obj)),(w.heap.size,(O #[V I ob,aA ow,V I ov] 50:Obj))] (by
  intro x hx
  simp only[List.mem_cons,List.not_mem_nil,or_false] at hx
  rcases hx with rfl | rfl | rfl
  ·exact⟨zB,zB,lA (by rw[<- e2];exact nA _ _) _⟩
  ·exact⟨zB,zB,lA (lA (by rw[<- e1];exact nA _ _) _) _⟩
  ·exact⟨zB,zB,lA (lA (lA (nA _ _) _) _) _⟩) zB)
 rw[show({ p with q:=w.heap.size+3 }:NPtr)=p from by rw[<- hpq]] at N1
 have HR:=AS (show n.issue c ⟨ob,ow,ov⟩ ⟨d0,d1,d2⟩=if ob < 0∨ob≥c.blocks then (n,out0,false) else if !(n.cpu.issue c ⟨ob,ow,ov⟩).2 then (n,out0,false) else ((({ n with cpu:=(n.cpu.issue c ⟨ob,ow,ov⟩).1 }:S.Node).settle c out0).1,if (({ n with cpu:=(n.cpu.issue c ⟨ob,ow,ov⟩).1 }:S.Node).settle c out0).1.cpu.busy then (({ n with cpu:=(n.cpu.issue c ⟨ob,ow,ov⟩).1 }:S.Node).settle c out0).1.ask c ⟨ob,ow,ov⟩ ⟨d0,d1,d2⟩ (({ n with cpu:=(n.cpu.issue c ⟨ob,ow,ov⟩).1 }:S.Node).settle c out0).2 else (({ n with cpu:=(n.cpu.issue c ⟨ob,ow,ov⟩).1 }:S.Node).settle c out0).2,true) from rfl)
 have IN:=AS (pissue_no (c:=c) (p:=n.cpu) (op:=⟨ob,ow,ov⟩))
 have HS:=AS (show ∀ pr:S.Proc,((({ n with cpu:=pr }:S.Node).settle c out0).2.letters.length≤1/\(({ n with cpu:=pr }:S.Node).settle c out0).1.id=n.id) from fun pr=>⟨(settle_len c _ out0).1,(settle_still c _ out0 Still.nil).2.1⟩)
 show bB dA 54 #[bA (M ⟨p.b,0,U⟩),.agg #[V I ob,aA ow,V I ov],.agg #[V I d0,V I d1,V I d2]] w (NRes (fun a b=>.tuple #[.agg #[a,b],aA (n.issue c ⟨ob,ow,ov⟩ ⟨d0,d1,d2⟩).2.2]) c (n.issue c ⟨ob,ow,ov⟩ ⟨d0,d1,d2⟩).1 (n.issue c ⟨ob,ow,ov⟩ ⟨d0,d1,d2⟩).2.1 p K w)
 generalize n.issue c ⟨ob,ow,ov⟩ ⟨d0,d1,d2⟩=R at *
 clear hN h6 e1 e2 e3
 have CE:=AS (show ∀ (n':S.Node) (W':cA),n'.id=n.id->W'.heap[p.b]?=M (O (nodeC c n' p) 133 (0,0))->(W'.cell? ⟨p.b,0,U⟩=M (V I c.nodes)/\W'.cell? ⟨p.b,1,U⟩=M (V I c.blocks)/\W'.cell? ⟨p.b,2,U⟩=M (V I c.tokens)/\W'.cell? ⟨p.b,3,U⟩=M (V I c.sets)/\W'.cell? ⟨p.b,4,U⟩=M (V I c.ways)/\W'.cell? ⟨p.b,5,U⟩=M (V I c.cap)/\W'.cell? ⟨p.b,6,U⟩=M (V I c.wait)/\W'.cell? ⟨p.b,7,U⟩=M (V I c.tries)/\W'.cell? ⟨p.b,8,U⟩=M (V I c.policy)/\W'.cell? ⟨p.b,9,U⟩=M (V I n.id)/\W'.cell? ⟨p.b,10,U⟩=M (bA (M ⟨p.bc,0,U⟩))/\W'.cell? ⟨p.b,11,U⟩=M (bA (M ⟨p.bt,0,U⟩))/\W'.cell? ⟨p.b,12,U⟩=M (bA (M ⟨p.bp,0,U⟩))/\W'.cell? ⟨p.b,13,U⟩=M (.map (M p.ba))/\W'.cell? ⟨p.b,14,U⟩=M (.map (M p.bo))) from fun n' W' hi h=>⟨cw h 0,cw h 1,cw h 2,cw h 3,cw h 4,cw h 5,cw h 6,cw h 7,cw h 8,by rw[<- hi];exact(cw h 9),cw h 10,cw h 11,cw h 12,cw h 13,cw h 14⟩)
 generalize hpb:p.b=pb at *
 go_enter Tryz.func54,Tryz.ntmps54
 go_upto_region 2 with fail
 generalize ((((w.alloc (O #[V I ob,aA ow,V I ov] 50)).alloc (O #[V I d0,V I d1,V I d2] 74)).alloc (O #[J U 0 0,J U 0 0] 138)).alloc (O #[J U 0 0,J U 0 0] 138))=W at N1 ⊢
 generalize hg:w.heap.size=g at *
 by_cases q1:ob < 0∨ob≥c.blocks
 case pos =>
  have hr:=HR.out.trans (if_pos q1)
  have KEEP:=AS (show ∀ (n':S.Node) (o':S.Out) (bx:List (Nat×Obj)) x,NX c n' o' p K w bx x->n'.id=n.id->(g,(O #[V I ob,aA ow,V I ov] 50:Obj))∈bx->(x.cell? ⟨g,0,U⟩=M (V I ob)/\x.cell? ⟨pb,1,U⟩=M (V I c.blocks)) from fun n' o' bx x hx hid m0=>by
   have hce:=(show _ from by have h11:=hx.node;rw[hpb] at h11;exact CE.out n' _ hid h11)
   have hb0:=hx.at_ m0
   exact⟨cw hb0 0,hce.2.1⟩)
  have hS_:=KEEP.out _ _ _ _ N1.out rfl zB
  have e0_:=hS_.1
  have e1_:=hS_.2
  clear hS_
  go_cut [32] (fun v32 wx=>v32=aA true/\NX c n out0 p K w [(g+2,(O #[J U 0 0,J U 0 0] 138:Obj)),(g+1,(O #[V I d0,V I d1,V I d2] 74:Obj)),(g,(O #[V I ob,aA ow,V I ov] 50:Obj))] wx)
  case first =>
   by_cases q2:ob < 0
   case pos =>
    have hd:decide (ob < 0)=true:=by simp[q2]
    go_region
    all_goals
     go_wp2_with fail
     go_meet
     exact⟨rfl,N1.out.drew⟩
   case neg =>
    have q3:ob≥c.blocks:=q1.resolve_left q2
    have hd:decide (ob < 0)=false:=decide_eq_false q2
    have hd2:decide (c.blocks≤ob)=true:=by simp;omega
    have hd3:decide (ob≥c.blocks)=true:=by simp;omega
    go_region
    all_goals
     go_wp2_with fail
     go_meet
     exact⟨rfl,N1.out.drew⟩
  case rest =>
   obtain⟨rfl,hcut⟩:=hcut
   have N2:=AS hcut
   clear hcut KEEP N1 e0_ e1_
   obtain⟨A1,n1,c1,A2,n2,c2,hq_⟩:=N2.out.outs
   have HQ:=AS hq_
   have HQ2:=AS (show wc.heap[g+3]?=M (O #[J A1 n1 c1,J A2 n2 c2] 138 (0,0)) from by rw[<- hpq];exact hq_)
   have q0_:=cw HQ2.out 0 (v:=J A1 n1 c1)
   have q1_:=cw HQ2.out 1 (v:=J A2 n2 c2)
   have RB:=AS (N2.out.at_ (g:=g+2) (ob:=O #[J U 0 0,J U 0 0] 138) zB)
   have r0_:=cw RB.out 0 (v:=J U 0 0)
   have r1_:=cw RB.out 1 (v:=J U 0 0)
   have rz0_:=jA RB.out 0
   have rz1_:=jA RB.out 1
   clear hq_
   go_wp2
   refine yA (v:=.tuple #[.agg #[J A1 n1 c1,J A2 n2 c2],aA false]) (by simp[results,Tryz.results54,go_sem,r0_,r1_]) rfl ?_
   (try rw[hr])
   exact NX.fin (v:=fun a b=>.tuple #[.agg #[a,b],aA false]) (r:=g+2) (ob:=O #[J U 0 0,J U 0 0] 138) N2.out zB (fun x hx=>H6.out x (by rw[<- hg];exact hx)) HQ.out (by repeat (with_reducible first | exact qB _ _ | apply sB | apply tB))
 case neg =>
  have hr:=HR.out.trans (if_neg q1)
  clear HR
  have HR:=AS hr
  clear hr
  have hd:decide (ob < 0)=false:=by simp;omega
  have hd2:decide (c.blocks≤ob)=false:=by simp;omega
  have hd3:decide (ob≥c.blocks)=false:=by simp;omega
  have KEEP:=AS (show ∀ (n':S.Node) (o':S.Out) (bx:List (Nat×Obj)) x,NX c n' o' p K w bx x->n'.id=n.id->(g,(O #[V I ob,aA ow,V I ov] 50:Obj))∈bx->(x.cell? ⟨g,0,U⟩=M (V I ob)/\x.cell? ⟨g,1,U⟩=M (aA ow)/\x.cell? ⟨g,2,U⟩=M (V I ov)/\x.cell? ⟨pb,1,U⟩=M (V I c.blocks)/\x.cell? ⟨pb,12,U⟩=M (bA (M ⟨p.bp,0,U⟩))) from fun n' o' bx x hx hid m0=>by
   have hce:=(show _ from by have h11:=hx.node;rw[hpb] at h11;exact CE.out n' _ hid h11)
   have hb0:=hx.at_ m0
   exact⟨cw hb0 0,cw hb0 1,cw hb0 2,hce.2.1,hce.2.2.2.2.2.2.2.2.2.2.2.2.1⟩)
  have hS_:=KEEP.out _ _ _ _ N1.out rfl zB
  have e0_:=hS_.1
  have e1_:=hS_.2.1
  have e2_:=hS_.2.2.1
  have e3_:=hS_.2.2.2.1
  have e4_:=hS_.2.2.2.2
  clear hS_
  have IS:=AS (N1.out.drew.call (fun K1 h=>h.pissue ⟨ob,ow,ov⟩))
  simp only[opV] at IS
  generalize n.cpu.issue c ⟨ob,ow,ov⟩=is_ at *
  obtain⟨ip,ik⟩:=is_
  simp only at IS HR IN
  go_cut [32] (fun v32 wx=>v32=aA (!ik)/\NX c { n with cpu:=ip } out0 p K w [(g+2,(O #[J U 0 0,J U 0 0] 138:Obj)),(g+1,(O #[V I d0,V I d1,V I d2] 74:Obj)),(g,(O #[V I ob,aA ow,V I ov] 50:Obj))] wx)
  case first =>
   go_region_with (go_at_call 83;refine IS.out.mono ?_;rintro e w2 ⟨rfl,h2⟩;have N2:=AS h2;clear h2)
   all_goals
    go_wp2_with fail
    go_meet
    exact⟨rfl,N2.out⟩
  case rest =>
   obtain⟨rfl,hcut⟩:=hcut
   have N2:=AS hcut
   clear hcut KEEP IS N1 e0_ e1_ e2_ e3_ e4_
   cases ik
   case false =>
    have hr:=HR.out.trans (if_pos rfl)
    obtain rfl:=IN.out rfl
    obtain⟨A1,n1,c1,A2,n2,c2,hq_⟩:=N2.out.outs
    have HQ:=AS hq_
    have HQ2:=AS (show wc.heap[g+3]?=M (O #[J A1 n1 c1,J A2 n2 c2] 138 (0,0)) from by rw[<- hpq];exact hq_)
    have q0_:=cw HQ2.out 0 (v:=J A1 n1 c1)
    have q1_:=cw HQ2.out 1 (v:=J A2 n2 c2)
    have RB:=AS (N2.out.at_ (g:=g+2) (ob:=O #[J U 0 0,J U 0 0] 138) zB)
    have r0_:=cw RB.out 0 (v:=J U 0 0)
    have r1_:=cw RB.out 1 (v:=J U 0 0)
    have rz0_:=jA RB.out 0
    have rz1_:=jA RB.out 1
    clear hq_
    go_wp2
    refine yA (v:=.tuple #[.agg #[J A1 n1 c1,J A2 n2 c2],aA false]) (by simp[results,Tryz.results54,go_sem,r0_,r1_]) rfl ?_
    (try rw[hr])
    exact NX.fin (v:=fun a b=>.tuple #[.agg #[a,b],aA false]) (r:=g+2) (ob:=O #[J U 0 0,J U 0 0] 138) N2.out zB (fun x hx=>H6.out x (by rw[<- hg];exact hx)) HQ.out (by repeat (with_reducible first | exact qB _ _ | apply sB | apply tB))
   case true =>
    have hr:=HR.out.trans (if_neg zB)
    clear HR IN
    have HR:=AS hr
    clear hr
    have ST:=AS (N2.out.call (fun K1 h=>nodeSettle_any h (by show 0≤_;omega) (by show 0≤_;omega)))
    rw[hpb,hpq] at ST
    have HS2:=AS (HS.out ip)
    clear HS
    generalize ({ n with cpu:=ip }:S.Node).settle c out0=st at *
    obtain⟨n2,o2⟩:=st
    simp only at ST HR HS2
    go_wp2_with fail
    refine ST.out.mono ?_
    rintro e w3 ⟨rfl,h3⟩
    have N3:=AS h3
    clear h3 ST N2
    have hid2:=HS2.out.2
    have K0:=AS (show ∀ (n':S.Node) (o':S.Out) (bx:List (Nat×Obj)) x,NX c n' o' p K w bx x->n'.id=n.id->(x.cell? ⟨pb,12,U⟩=M (bA (M ⟨p.bp,0,U⟩))) from fun n' o' bx x hx hid=>by
     have hce:=(show _ from by have h11:=hx.node;rw[hpb] at h11;exact CE.out n' _ hid h11)
     exact hce.2.2.2.2.2.2.2.2.2.2.2.2.1)
    have hS_:=K0.out _ _ _ _ N3.out hid2
    have e0_:=hS_
    clear hS_
    have PD:=AS (pending_any (w:=w3) (by obtain⟨K1,-,h,-⟩:=N3.out;exact h.1.2.2.2.2.1))
    generalize hbz:n2.cpu.busy=bz at *
    generalize n2.cpu.op=po at *
    obtain⟨pb0,pb1,pb2⟩:=po
    simp only[opV] at PD
    go_wp2_with fail
    refine PD.out.mono ?_
    rintro e w4 ⟨rfl,hb4⟩
    have N4:=AS ((N3.out.below hb4).below (eA (fA _ _) (O #[V I pb0,aA pb1,V I pb2] 50)))
    clear hb4 PD K0 e0_ N3
    cases bz
    case false =>
     have hr:=HR.out
     simp only[vA,if_false] at hr
     go_upto_region 8 with fail
     generalize w4.alloc (O #[V I pb0,aA pb1,V I pb2] 50)=w5 at N4 ⊢
     obtain⟨A1,n1,c1,A2,n2,c2,hq_⟩:=N4.out.outs
     have HQ:=AS hq_
     have HQ2:=AS (show w5.heap[g+3]?=M (O #[J A1 n1 c1,J A2 n2 c2] 138 (0,0)) from by rw[<- hpq];exact hq_)
     have q0_:=cw HQ2.out 0 (v:=J A1 n1 c1)
     have q1_:=cw HQ2.out 1 (v:=J A2 n2 c2)
     have RB:=AS (N4.out.at_ (g:=g+2) (ob:=O #[J U 0 0,J U 0 0] 138) zB)
     have r0_:=cw RB.out 0 (v:=J U 0 0)
     have r1_:=cw RB.out 1 (v:=J U 0 0)
     have rz0_:=jA RB.out 0
     have rz1_:=jA RB.out 1
     clear hq_
     go_wp2
     refine yA (v:=.tuple #[.agg #[J A1 n1 c1,J A2 n2 c2],aA true]) (by simp[results,Tryz.results54,go_sem,r0_,r1_]) rfl ?_
     (try rw[hr])
     exact NX.fin (v:=fun a b=>.tuple #[.agg #[a,b],aA true]) (r:=g+2) (ob:=O #[J U 0 0,J U 0 0] 138) N4.out zB (fun x hx=>H6.out x (by rw[<- hg];exact hx)) HQ.out (by repeat (with_reducible first | exact qB _ _ | apply sB | apply tB))
    case true =>
     have hr:=HR.out
     simp only[if_true] at hr
     go_upto_region 7 with fail
     generalize w4.alloc (O #[V I pb0,aA pb1,V I pb2] 50)=w5 at N4 ⊢
     have KEEP:=AS (show ∀ (n':S.Node) (o':S.Out) (bx:List (Nat×Obj)) x,NX c n' o' p K w bx x->n'.id=n.id->(g,(O #[V I ob,aA ow,V I ov] 50:Obj))∈bx->(g+1,(O #[V I d0,V I d1,V I d2] 74:Obj))∈bx->(x.cell? ⟨g,0,U⟩=M (V I ob)/\x.cell? ⟨g,1,U⟩=M (aA ow)/\x.cell? ⟨g,2,U⟩=M (V I ov)/\x.cell? ⟨g+1,0,U⟩=M (V I d0)/\x.cell? ⟨g+1,1,U⟩=M (V I d1)/\x.cell? ⟨g+1,2,U⟩=M (V I d2)) from fun n' o' bx x hx hid m0 m1=>by
      have hb0:=hx.at_ m0
      have hb1:=hx.at_ m1
      exact⟨cw hb0 0,cw hb0 1,cw hb0 2,cw hb1 0,cw hb1 1,cw hb1 2⟩)
     have hS_:=KEEP.out _ _ _ _ N4.out hid2 zB zB
     have e0_:=hS_.1
     have e1_:=hS_.2.1
     have e2_:=hS_.2.2.1
     have e3_:=hS_.2.2.2.1
     have e4_:=hS_.2.2.2.2.1
     have e5_:=hS_.2.2.2.2.2
     clear hS_
     have AS_:=AS (N4.out.call (fun K1 h=>nodeAsk_any h ⟨ob,ow,ov⟩ ⟨d0,d1,d2⟩ (by have:=targets_len c n2.id ⟨d0,d1,d2⟩;have:=HS2.out.1;omega)))
     rw[hpb,hpq] at AS_
     simp only[opV,drwV] at AS_
     go_wp2_with fail
     refine AS_.out.mono ?_
     rintro e w6 ⟨rfl,h6⟩
     have N6:=AS h6
     clear h6 AS_ KEEP N4 e0_ e1_ e2_ e3_ e4_ e5_
     obtain⟨A1,n1,c1,A2,n2,c2,hq_⟩:=N6.out.outs
     have HQ:=AS hq_
     have HQ2:=AS (show w6.heap[g+3]?=M (O #[J A1 n1 c1,J A2 n2 c2] 138 (0,0)) from by rw[<- hpq];exact hq_)
     have q0_:=cw HQ2.out 0 (v:=J A1 n1 c1)
     have q1_:=cw HQ2.out 1 (v:=J A2 n2 c2)
     have RB:=AS (N6.out.at_ (g:=g+2) (ob:=O #[J U 0 0,J U 0 0] 138) zB)
     have r0_:=cw RB.out 0 (v:=J U 0 0)
     have r1_:=cw RB.out 1 (v:=J U 0 0)
     have rz0_:=jA RB.out 0
     have rz1_:=jA RB.out 1
     clear hq_
     go_wp2
     refine yA (v:=.tuple #[.agg #[J A1 n1 c1,J A2 n2 c2],aA true]) (by simp[results,Tryz.results54,go_sem,r0_,r1_]) rfl ?_
     (try rw[hr])
     exact NX.fin (v:=fun a b=>.tuple #[.agg #[a,b],aA true]) (r:=g+2) (ob:=O #[J U 0 0,J U 0 0] 138) N6.out zB (fun x hx=>H6.out x (by rw[<- hg];exact hx)) HQ.out (by repeat (with_reducible first | exact qB _ _ | apply sB | apply tB))
theorem nodeIssue_any {c:Cfg} {n:S.Node} {p:NPtr} {K:Nat->Nat} {w:cA} (hN:NodeK c n p K w) (h6:∀ x,x < w.heap.size->K x≠6) (op:S.Op) (d:Drw):bB dA 54 #[bA (M ⟨p.b,0,U⟩),opV op,drwV d] w (NRes (fun a b=>.tuple #[.agg #[a,b],aA (n.issue c op d).2.2]) c (n.issue c op d).1 (n.issue c op d).2.1 p K w) :=
 nodeIssue_aux (p:={ p with q:=w.heap.size+3 }) hN rfl h6 op d
end Go.Proofs.YtiebppkhaiofeaaGreat.K
namespace Go.Proofs.YtiebppkhaiofeaaGreat.K
open Go.RowKit Go.Proofs.YtiebppkhaiofeaaGreatW.PrintWords Go.Proofs.YtiebppkhaiofeaaGreat.S
attribute [local go_sem] nil39 World.cell?_alloc_some
theorem netTake_yes {rm:Int} {xs:List Let} {b i:Nat} {F:Set_} {w:cA} (hN:NetAt rm xs b F w) (hi:i < xs.length) :
  bB dA 57 #[bA (M ⟨b,0,U⟩),V I i] w (NetP (.tuple #[letV (xs.getD i let0),aA true]) rm (xs.eraseIdx i) b F w):=by
 have hbl:=hN.lt
 obtain⟨v,hB,hO,hv,hb,hf,h1,h2,h3⟩:=hN
 obtain⟨g',cap,rfl,hc63,hcap,hlt',hcell⟩:=own_some hO hi
 generalize hl:xs.getD i letE.d=l at *
 have hl':xs.getD i let0=l:=hl
 clear hl
 obtain⟨k,f,t,bb,q,wh,wr,⟨c,o,h,d⟩⟩:=l
 have e0:w.cell? ⟨g',i * 11,U⟩=M (V I k):=hcell 0 yB
 have e1:w.cell? ⟨g',i * 11+1,U⟩=M (V I f):=hcell 1 yB
 have e2:w.cell? ⟨g',i * 11+2,U⟩=M (V I t):=hcell 2 yB
 have e3:w.cell? ⟨g',i * 11+3,U⟩=M (V I bb):=hcell 3 yB
 have e4:w.cell? ⟨g',i * 11+4,U⟩=M (V I q):=hcell 4 yB
 have e5:w.cell? ⟨g',i * 11+5,U⟩=M (V I wh):=hcell 5 yB
 have e6:w.cell? ⟨g',i * 11+6,U⟩=M (aA wr):=hcell 6 yB
 have e7:w.cell? ⟨g',i * 11+7,U⟩=M (V I c):=hcell 7 yB
 have e8:w.cell? ⟨g',i * 11+8,U⟩=M (aA o):=hcell 8 yB
 have e9:w.cell? ⟨g',i * 11+9,U⟩=M (aA h):=hcell 9 yB
 have e10:w.cell? ⟨g',i * 11+10,U⟩=M (V I d):=hcell 10 yB
 clear hcell
 rw[hl']
 have c1:=cw hB 1 (v:=J (M ⟨g',0,U⟩) xs.length cap)
 have hne:b≠g':=fun e=>hv (by simp[foot_slice,e])
 have HF:=AS (qA hb (qA (hf g' (by simp[foot_slice])) (qA hne (qA hlt' hbl))))
 have B1:=AS (lA hB (O #[V I 0,V I 0,V I 0,V I 0,V I 0,V I 0,aA false,V I 0,aA false,aA false,V I 0] 47))
 have O2:=AS (hO.ks (pB (fun _=>False) (eA (eA (fA _ w) (O #[V I 0,V I 0,V I 0,V I 0,V I 0,V I 0,aA false,V I 0,aA false,aA false,V I 0] 47)) (O #[V I k,V I f,V I t,V I bb,V I q,V I wh,aA wr,V I c,aA o,aA h,V I d] 47))) (fun _ _=>id))
 have B2:=AS (lA (lA hB (O #[V I 0,V I 0,V I 0,V I 0,V I 0,V I 0,aA false,V I 0,aA false,aA false,V I 0] 47)) (O #[V I k,V I f,V I t,V I bb,V I q,V I wh,aA wr,V I c,aA o,aA h,V I d] 47))
 have hi':decide (0≤(i:Int)/\(i:Int) < (xs.length:Int))=true:=by simp[hi]
 have q0:(0:Int)≤(i:Int):=vB
 have q1:(i:Int) < (xs.length:Int):=vB
 have q2:wrap64 ((i:Int)+1)=(i:Int)+1:=by unfold wrap64;omega
 have hneb:w.heap.size≠b:=vB
 clear hB hO hv hb hf hne hl' hlt'
 go_enter Tryz.func57,Tryz.ntmps57
 go_wp2_with fail
 refine(netIs_any b rm _ xs.length cap i _ B1.out).mono ?_
 rintro e w1 ⟨rfl,rfl⟩
 rw[hi']
 go_wp2_with fail
 have X4:=AS (lA (nA w (O #[V I 0,V I 0,V I 0,V I 0,V I 0,V I 0,aA false,V I 0,aA false,aA false,V I 0] 47)) (O #[V I k,V I f,V I t,V I bb,V I q,V I wh,aA wr,V I c,aA o,aA h,V I d] 47))
 have X6:=AS (nA (w.alloc (O #[V I 0,V I 0,V I 0,V I 0,V I 0,V I 0,aA false,V I 0,aA false,aA false,V I 0] 47)) (O #[V I k,V I f,V I t,V I bb,V I q,V I wh,aA wr,V I c,aA o,aA h,V I d] 47))
 refine(delL_any O2.out hi).mono ?_
 rintro e w3 ⟨rfl,hO3,hK3⟩
 have O3:=AS hO3
 have K3:=AS hK3
 have B3:=AS (hK3.at_ B2.out (by have:=HF.out.2.2.1;simpa using this))
 have Y4:=AS (hK3.at_ X4.out (by have:=HF.out.2.2.2.1;simp;omega))
 have Y6:=AS (hK3.at_ X6.out (by have:=HF.out.2.2.2.1;simp;omega))
 clear hO3 hK3
 have y1:=cw B3.out 1 (v:=J (M ⟨g',0,U⟩) xs.length cap)
 have z1:=jA B3.out 1
 go_upto_region 5 with fail
 have ST:=AS (netStored B3.out O3.out ((pB F (eA (eA (fA _ w) (O #[V I 0,V I 0,V I 0,V I 0,V I 0,V I 0,aA false,V I 0,aA false,aA false,V I 0] 47)) (O #[V I k,V I f,V I t,V I bb,V I q,V I wh,aA wr,V I c,aA o,aA h,V I d] 47))).trans (KS.ofKeeps (F:=F) K3.out (by have:=HF.out.2.1;intro x hx;simp at hx;subst hx;exact this)) (fun _ _ h=>h)) HF.out.1 (fun x=>F x/\x < w.heap.size) ⟨HF.out.1,HF.out.2.2.2.2⟩ (by intro x hx;simp[foot_slice] at hx;subst hx;exact⟨HF.out.2.1,HF.out.2.2.2.1⟩) (by simpa [foot_slice] using HF.out.2.2.1) ⟨h1,h2⟩ (by rw[List.length_eraseIdx_of_lt hi];omega))
 have U4:=AS (blk_far Y4.out (p:=⟨b,1,U⟩) (by have:=HF.out.2.2.2.2;simp;omega) (J (M ⟨g',0,U⟩) (xs.length - 1) cap))
 have U6:=AS (show(w3.setCell ⟨b,1,U⟩ (J (M ⟨g',0,U⟩) (xs.length - 1) cap)).heap[w.heap.size+1]?=M (O #[V I k,V I f,V I t,V I bb,V I q,V I wh,aA wr,V I c,aA o,aA h,V I d] 47) from by have:=blk_far Y6.out (p:=⟨b,1,U⟩) (by have:=HF.out.2.2.2.2;simp;omega) (J (M ⟨g',0,U⟩) (xs.length - 1) cap);simpa using this)
 clear Y4 Y6 X4 X6 y1 z1 O3 B3 B1 B2 O2 K3 c1 e0 e1 e2 e3 e4 e5 e6 e7 e8 e9 e10
 generalize w3.setCell ⟨b,1,U⟩ (J (M ⟨g',0,U⟩) (xs.length - 1) cap)=w4 at *
 have f0:=cw U6.out 0 (v:=V I k)
 have f1:=cw U6.out 1 (v:=V I f)
 have f2:=cw U6.out 2 (v:=V I t)
 have f3:=cw U6.out 3 (v:=V I bb)
 have f4:=cw U6.out 4 (v:=V I q)
 have f5:=cw U6.out 5 (v:=V I wh)
 have f6:=cw U6.out 6 (v:=aA wr)
 have f7:=cw U6.out 7 (v:=V I c)
 have f8:=cw U6.out 8 (v:=aA o)
 have f9:=cw U6.out 9 (v:=aA h)
 have f10:=cw U6.out 10 (v:=V I d)
 have p0:=cw U4.out 0 (v:=V I 0)
 have p1:=cw U4.out 1 (v:=V I 0)
 have p2:=cw U4.out 2 (v:=V I 0)
 have p3:=cw U4.out 3 (v:=V I 0)
 have p4:=cw U4.out 4 (v:=V I 0)
 have p5:=cw U4.out 5 (v:=V I 0)
 have p6:=cw U4.out 6 (v:=aA false)
 have p7:=cw U4.out 7 (v:=V I 0)
 have p8:=cw U4.out 8 (v:=aA false)
 have p9:=cw U4.out 9 (v:=aA false)
 have p10:=cw U4.out 10 (v:=V I 0)
 have r0:=jA U4.out 0
 have r1:=jA U4.out 1
 have r2:=jA U4.out 2
 have r3:=jA U4.out 3
 have r4:=jA U4.out 4
 have r5:=jA U4.out 5
 have r6:=jA U4.out 6
 have r7:=jA U4.out 7
 have r8:=jA U4.out 8
 have r9:=jA U4.out 9
 have r10:=jA U4.out 10
 go_wp2
 have H5:((((((((((((w4).setCell ⟨w.heap.size,0,U⟩ (V I k)).setCell ⟨w.heap.size,1,U⟩ (V I f)).setCell ⟨w.heap.size,2,U⟩ (V I t)).setCell ⟨w.heap.size,3,U⟩ (V I bb)).setCell ⟨w.heap.size,4,U⟩ (V I q)).setCell ⟨w.heap.size,5,U⟩ (V I wh)).setCell ⟨w.heap.size,6,U⟩ (aA wr)).setCell ⟨w.heap.size,7,U⟩ (V I c)).setCell ⟨w.heap.size,8,U⟩ (aA o)).setCell ⟨w.heap.size,9,U⟩ (aA h)).setCell ⟨w.heap.size,10,U⟩ (V I d)).heap[w.heap.size]?=M (O #[V I k,V I f,V I t,V I bb,V I q,V I wh,aA wr,V I c,aA o,aA h,V I d] 47):=by have:=(mA (mA (mA (mA (mA (mA (mA (mA (mA (mA (mA U4.out 0 (V I k)) 1 (V I f)) 2 (V I t)) 3 (V I bb)) 4 (V I q)) 5 (V I wh)) 6 (aA wr)) 7 (V I c)) 8 (aA o)) 9 (aA h)) 10 (V I d));simpa using this
 have K5:=AS (show KS F w ((((((((((((w4).setCell ⟨w.heap.size,0,U⟩ (V I k)).setCell ⟨w.heap.size,1,U⟩ (V I f)).setCell ⟨w.heap.size,2,U⟩ (V I t)).setCell ⟨w.heap.size,3,U⟩ (V I bb)).setCell ⟨w.heap.size,4,U⟩ (V I q)).setCell ⟨w.heap.size,5,U⟩ (V I wh)).setCell ⟨w.heap.size,6,U⟩ (aA wr)).setCell ⟨w.heap.size,7,U⟩ (V I c)).setCell ⟨w.heap.size,8,U⟩ (aA o)).setCell ⟨w.heap.size,9,U⟩ (aA h)).setCell ⟨w.heap.size,10,U⟩ (V I d)) from((((((((((((((((((((((ST.out.2).set (g:=w.heap.size) (.inr (pA _)) 0 (V I k))).set (g:=w.heap.size) (.inr (pA _)) 1 (V I f))).set (g:=w.heap.size) (.inr (pA _)) 2 (V I t))).set (g:=w.heap.size) (.inr (pA _)) 3 (V I bb))).set (g:=w.heap.size) (.inr (pA _)) 4 (V I q))).set (g:=w.heap.size) (.inr (pA _)) 5 (V I wh))).set (g:=w.heap.size) (.inr (pA _)) 6 (aA wr))).set (g:=w.heap.size) (.inr (pA _)) 7 (V I c))).set (g:=w.heap.size) (.inr (pA _)) 8 (aA o))).set (g:=w.heap.size) (.inr (pA _)) 9 (aA h))).set (g:=w.heap.size) (.inr (pA _)) 10 (V I d)))
 have K6:=AS (show KS (fun x=>x=w.heap.size) w4 ((((((((((((w4).setCell ⟨w.heap.size,0,U⟩ (V I k)).setCell ⟨w.heap.size,1,U⟩ (V I f)).setCell ⟨w.heap.size,2,U⟩ (V I t)).setCell ⟨w.heap.size,3,U⟩ (V I bb)).setCell ⟨w.heap.size,4,U⟩ (V I q)).setCell ⟨w.heap.size,5,U⟩ (V I wh)).setCell ⟨w.heap.size,6,U⟩ (aA wr)).setCell ⟨w.heap.size,7,U⟩ (V I c)).setCell ⟨w.heap.size,8,U⟩ (aA o)).setCell ⟨w.heap.size,9,U⟩ (aA h)).setCell ⟨w.heap.size,10,U⟩ (V I d)) from(((((((((((qB (fun x=>x=w.heap.size) w4).set (g:=w.heap.size) (.inl rfl) 0 (V I k)).set (g:=w.heap.size) (.inl rfl) 1 (V I f)).set (g:=w.heap.size) (.inl rfl) 2 (V I t)).set (g:=w.heap.size) (.inl rfl) 3 (V I bb)).set (g:=w.heap.size) (.inl rfl) 4 (V I q)).set (g:=w.heap.size) (.inl rfl) 5 (V I wh)).set (g:=w.heap.size) (.inl rfl) 6 (aA wr)).set (g:=w.heap.size) (.inl rfl) 7 (V I c)).set (g:=w.heap.size) (.inl rfl) 8 (aA o)).set (g:=w.heap.size) (.inl rfl) 9 (aA h)).set (g:=w.heap.size) (.inl rfl) 10 (V I d))
 clear f0 p0 r0 f1 p1 r1 f2 p2 r2 f3 p3 r3 f4 p4 r4 f5 p5 r5 f6 p6 r6 f7 p7 r7 f8 p8 r8 f9 p9 r9 f10 p10 r10
 generalize (((((((((((w4).setCell ⟨w.heap.size,0,U⟩ (V I k)).setCell ⟨w.heap.size,1,U⟩ (V I f)).setCell ⟨w.heap.size,2,U⟩ (V I t)).setCell ⟨w.heap.size,3,U⟩ (V I bb)).setCell ⟨w.heap.size,4,U⟩ (V I q)).setCell ⟨w.heap.size,5,U⟩ (V I wh)).setCell ⟨w.heap.size,6,U⟩ (aA wr)).setCell ⟨w.heap.size,7,U⟩ (V I c)).setCell ⟨w.heap.size,8,U⟩ (aA o)).setCell ⟨w.heap.size,9,U⟩ (aA h)).setCell ⟨w.heap.size,10,U⟩ (V I d)=w5 at *
 have v0:=cw H5 0 (v:=V I k)
 have v1:=cw H5 1 (v:=V I f)
 have v2:=cw H5 2 (v:=V I t)
 have v3:=cw H5 3 (v:=V I bb)
 have v4:=cw H5 4 (v:=V I q)
 have v5:=cw H5 5 (v:=V I wh)
 have v6:=cw H5 6 (v:=aA wr)
 have v7:=cw H5 7 (v:=V I c)
 have v8:=cw H5 8 (v:=aA o)
 have v9:=cw H5 9 (v:=aA h)
 have v10:=cw H5 10 (v:=V I d)
 refine yA (v:=.tuple #[letV ⟨k,f,t,bb,q,wh,wr,⟨c,o,h,d⟩⟩,aA true]) (by simp[results,Tryz.results57,go_sem,letV,v0,v1,v2,v3,v4,v5,v6,v7,v8,v9,v10];try rfl) rfl ?_
 exact⟨rfl,ST.out.1.keep K6.out (fun x _ h=>⟨.inl h.1,by have:=h.2;show ¬ x=w.heap.size;omega⟩),K5.out⟩
theorem netDrop_no {rm:Int} {xs:List Let} {b i:Nat} {F:Set_} {w:cA} (hN:NetAt rm xs b F w) (hi:i < xs.length) (ha:((xs.getD i let0).kind == 2)=false) :
  bB dA 32 #[bA (M ⟨b,0,U⟩),V I i] w (NetP (aA false) rm xs b F w):=by
 have N:=AS hN
 have hbl:=hN.lt
 obtain⟨v,hB,hO,hv,hb,hf,h1,h2,h3⟩:=hN
 obtain⟨g',cap,rfl,hc63,hcap,hlt',hcell⟩:=own_some hO hi
 generalize hl:xs.getD i letE.d=l at *
 have hl':xs.getD i let0=l:=hl
 clear hl
 obtain⟨k,f,t,bb,q,wh,wr,⟨c,o,h,d⟩⟩:=l
 have e0:w.cell? ⟨g',i * 11,U⟩=M (V I k):=hcell 0 yB
 have e1:w.cell? ⟨g',i * 11+1,U⟩=M (V I f):=hcell 1 yB
 have e2:w.cell? ⟨g',i * 11+2,U⟩=M (V I t):=hcell 2 yB
 have e3:w.cell? ⟨g',i * 11+3,U⟩=M (V I bb):=hcell 3 yB
 have e4:w.cell? ⟨g',i * 11+4,U⟩=M (V I q):=hcell 4 yB
 have e5:w.cell? ⟨g',i * 11+5,U⟩=M (V I wh):=hcell 5 yB
 have e6:w.cell? ⟨g',i * 11+6,U⟩=M (aA wr):=hcell 6 yB
 have e7:w.cell? ⟨g',i * 11+7,U⟩=M (V I c):=hcell 7 yB
 have e8:w.cell? ⟨g',i * 11+8,U⟩=M (aA o):=hcell 8 yB
 have e9:w.cell? ⟨g',i * 11+9,U⟩=M (aA h):=hcell 9 yB
 have e10:w.cell? ⟨g',i * 11+10,U⟩=M (V I d):=hcell 10 yB
 clear hcell
 rw[hl'] at ha
 have ha':(k == 2)=false:=ha
 have DR:=AS (drops_any ⟨k,f,t,bb,q,wh,wr,⟨c,o,h,d⟩⟩)
 have c1:=cw hB 1 (v:=J (M ⟨g',0,U⟩) xs.length cap)
 have hne:b≠g':=fun e=>hv (by simp[foot_slice,e])
 have HF:=AS (qA hb (qA (hf g' (by simp[foot_slice])) (qA hne (qA hlt' hbl))))
 have O1:=AS hO
 have B1:=AS hB
 have hi':decide (0≤(i:Int)/\(i:Int) < (xs.length:Int))=true:=by simp[hi]
 have q0:(0:Int)≤(i:Int):=vB
 have q1:(i:Int) < (xs.length:Int):=vB
 have q2:wrap64 ((i:Int)+1)=(i:Int)+1:=by unfold wrap64;omega
 clear hB hO hv hb hf hne hl' hlt' ha
 go_enter Tryz.func32,Tryz.ntmps32
 go_wp2_with fail
 refine(netIs_any b rm _ xs.length cap i _ B1.out).mono ?_
 rintro e w1 ⟨rfl,rfl⟩
 rw[hi']
 go_wp2_with fail
 refine(DR.out _).mono ?_
 rintro e w2 ⟨rfl,hbe⟩
 rw[show((⟨k,f,t,bb,q,wh,wr,⟨c,o,h,d⟩⟩:Let).kind == 2)=false from ha']
 have BE:=AS hbe
 have B2:=AS (kA B1.out hbe)
 have O2:=AS (O1.out.ks (pB (fun _=>False) hbe) (fun _ _=>id))
 have c2:=cw B2.out 1 (v:=J (M ⟨g',0,U⟩) xs.length cap)
 clear hbe
 go_wp2
 go_ret
 exact⟨rfl,N.out.keep (pB (fun _=>False) BE.out) (fun x _ h=>⟨.inl h,id⟩),pB _ BE.out⟩
theorem netDrop_yes {rm:Int} {xs:List Let} {b i:Nat} {F:Set_} {w:cA} (hN:NetAt rm xs b F w) (hi:i < xs.length) (ha:((xs.getD i let0).kind == 2)=true) :
  bB dA 32 #[bA (M ⟨b,0,U⟩),V I i] w (NetP (aA true) rm (xs.eraseIdx i) b F w):=by
 have N:=AS hN
 have hbl:=hN.lt
 obtain⟨v,hB,hO,hv,hb,hf,h1,h2,h3⟩:=hN
 obtain⟨g',cap,rfl,hc63,hcap,hlt',hcell⟩:=own_some hO hi
 generalize hl:xs.getD i letE.d=l at *
 have hl':xs.getD i let0=l:=hl
 clear hl
 obtain⟨k,f,t,bb,q,wh,wr,⟨c,o,h,d⟩⟩:=l
 have e0:w.cell? ⟨g',i * 11,U⟩=M (V I k):=hcell 0 yB
 have e1:w.cell? ⟨g',i * 11+1,U⟩=M (V I f):=hcell 1 yB
 have e2:w.cell? ⟨g',i * 11+2,U⟩=M (V I t):=hcell 2 yB
 have e3:w.cell? ⟨g',i * 11+3,U⟩=M (V I bb):=hcell 3 yB
 have e4:w.cell? ⟨g',i * 11+4,U⟩=M (V I q):=hcell 4 yB
 have e5:w.cell? ⟨g',i * 11+5,U⟩=M (V I wh):=hcell 5 yB
 have e6:w.cell? ⟨g',i * 11+6,U⟩=M (aA wr):=hcell 6 yB
 have e7:w.cell? ⟨g',i * 11+7,U⟩=M (V I c):=hcell 7 yB
 have e8:w.cell? ⟨g',i * 11+8,U⟩=M (aA o):=hcell 8 yB
 have e9:w.cell? ⟨g',i * 11+9,U⟩=M (aA h):=hcell 9 yB
 have e10:w.cell? ⟨g',i * 11+10,U⟩=M (V I d):=hcell 10 yB
 clear hcell
 rw[hl'] at ha
 have ha':(k == 2)=true:=ha
 have DR:=AS (drops_any ⟨k,f,t,bb,q,wh,wr,⟨c,o,h,d⟩⟩)
 have c1:=cw hB 1 (v:=J (M ⟨g',0,U⟩) xs.length cap)
 have hne:b≠g':=fun e=>hv (by simp[foot_slice,e])
 have HF:=AS (qA hb (qA (hf g' (by simp[foot_slice])) (qA hne (qA hlt' hbl))))
 have O1:=AS hO
 have B1:=AS hB
 have hi':decide (0≤(i:Int)/\(i:Int) < (xs.length:Int))=true:=by simp[hi]
 have q0:(0:Int)≤(i:Int):=vB
 have q1:(i:Int) < (xs.length:Int):=vB
 have q2:wrap64 ((i:Int)+1)=(i:Int)+1:=by unfold wrap64;omega
 clear hB hO hv hb hf hne hl' hlt' ha
 go_enter Tryz.func32,Tryz.ntmps32
 go_wp2_with fail
 refine(netIs_any b rm _ xs.length cap i _ B1.out).mono ?_
 rintro e w1 ⟨rfl,rfl⟩
 rw[hi']
 go_wp2_with fail
 refine(DR.out _).mono ?_
 rintro e w2 ⟨rfl,hbe⟩
 rw[show((⟨k,f,t,bb,q,wh,wr,⟨c,o,h,d⟩⟩:Let).kind == 2)=true from ha']
 have BE:=AS hbe
 have B2:=AS (kA B1.out hbe)
 have O2:=AS (O1.out.ks (pB (fun _=>False) hbe) (fun _ _=>id))
 have c2:=cw B2.out 1 (v:=J (M ⟨g',0,U⟩) xs.length cap)
 clear hbe
 go_wp2_with fail
 refine(delL_any O2.out hi).mono ?_
 rintro e w3 ⟨rfl,hO3,hK3⟩
 have O3:=AS hO3
 have K3:=AS hK3
 have B3:=AS (hK3.at_ B2.out (by have:=HF.out.2.2.1;simpa using this))
 clear hO3 hK3
 have y1:=cw B3.out 1 (v:=J (M ⟨g',0,U⟩) xs.length cap)
 have z1:=jA B3.out 1
 go_wp2
 go_ret
 exact⟨rfl,netStored B3.out O3.out ((pB F BE.out).trans (KS.ofKeeps (F:=F) K3.out (by have:=HF.out.2.1;intro x hx;simp at hx;subst hx;exact this)) (fun _ _ h=>h)) HF.out.1 (gr F w) (.inl HF.out.1) (by intro x hx;simp[foot_slice] at hx;subst hx;exact .inl HF.out.2.1) (by simpa [foot_slice] using HF.out.2.2.1) ⟨h1,h2⟩ (by rw[List.length_eraseIdx_of_lt hi];omega)⟩
theorem netDrop_out {rm:Int} {xs:List Let} {b:Nat} {i:Int} {F:Set_} {w:cA} (hN:NetAt rm xs b F w) (hi:netHas xs i=false) :
  bB dA 32 #[bA (M ⟨b,0,U⟩),V I i] w (NetP (aA false) rm xs b F w):=by
 have N:=AS hN
 obtain⟨v,hB,hO,hv,hb,hf,h1,h2,h3⟩:=hN
 obtain⟨A,c,rfl,hr,hc,hm,hn⟩:=hO.row
 have B1:=AS hB
 have hi':decide (0≤i/\i < (xs.length:Int))=false:=hi
 clear hr hO hB hf hv hn hi
 go_enter Tryz.func32,Tryz.ntmps32
 go_wp2_with fail
 refine(netIs_any b rm A xs.length c i _ B1.out).mono ?_
 rintro e w1 ⟨rfl,rfl⟩
 rw[hi']
 go_wp2
 go_ret
 exact⟨rfl,N.out.keep (qB (fun _=>False) _) (fun x _ h=>⟨.inl h,id⟩),qB _ _⟩
theorem netHas_nat {xs:List Let} {i:Int} (h:netHas xs i=true):∃ n:Nat,i=n/\n < xs.length:=by
 simp[netHas] at h
 exact⟨i.toNat,vB,vB⟩
def netGot (xs:List Let) (i:Int):Let:=if netHas xs i then xs.getD i.toNat let0 else let0
def netLeft (xs:List Let) (i:Int):List Let:=if netHas xs i then xs.eraseIdx i.toNat else xs
def netLoses (xs:List Let) (i:Int):Bool:=netHas xs i && (xs.getD i.toNat let0).kind == 2
def netLost (xs:List Let) (i:Int):List Let:=if netLoses xs i then xs.eraseIdx i.toNat else xs
def netSent (rm:Int) (xs ys:List Let):List Let:=if (ys.length:Int)≤rm - xs.length then xs ++ ys else xs
theorem netTake_any {rm:Int} {xs:List Let} {b:Nat} {F:Set_} (i:Int) {w:cA} (hN:NetAt rm xs b F w) :
  bB dA 57 #[bA (M ⟨b,0,U⟩),V I i] w (NetP (.tuple #[letV (netGot xs i),aA (netHas xs i)]) rm (netLeft xs i) b F w):=by
 cases h:netHas xs i with
 | false =>
  rw[show netLeft xs i=xs by simp[netLeft,h],show netGot xs i=let0 by simp[netGot,h]]
  exact netTake_no hN h
 | true =>
  obtain⟨n,rfl,hn⟩:=netHas_nat h
  rw[show netLeft xs n=xs.eraseIdx n by simp[netLeft,h],show netGot xs n=xs.getD n let0 by simp[netGot,h]]
  exact netTake_yes hN hn
theorem netDrop_any {rm:Int} {xs:List Let} {b:Nat} {F:Set_} (i:Int) {w:cA} (hN:NetAt rm xs b F w) :
  bB dA 32 #[bA (M ⟨b,0,U⟩),V I i] w (NetP (aA (netLoses xs i)) rm (netLost xs i) b F w):=by
 cases h:netHas xs i with
 | false =>
  have h1:netLoses xs i=false:=by simp[netLoses,h]
  rw[show netLost xs i=xs by simp[netLost,h1],h1]
  exact netDrop_out hN h
 | true =>
  obtain⟨n,rfl,hn⟩:=netHas_nat h
  cases h2:((xs.getD n let0).kind == 2) with
  | false =>
   have h1:netLoses xs n=false:=by simp only[netLoses,h,Int.toNat_natCast,h2];rfl
   rw[show netLost xs n=xs by simp[netLost,h1],h1]
   exact netDrop_no hN hn h2
  | true =>
   have h1:netLoses xs n=true:=by simp only[netLoses,h,Int.toNat_natCast,h2];rfl
   rw[show netLost xs n=xs.eraseIdx n by simp[netLost,h1],h1]
   exact netDrop_yes hN hn h2
theorem netSend_any {rm:Int} {xs ys:List Let} {b c2:Nat} {F:Set_} {A2:Option Addr} {w:cA} (hN:NetAt rm xs b F w) (hl:ys.length≤9223372036854775807) (hR:RowE letE w A2 ys) :
  bB dA 35 #[bA (M ⟨b,0,U⟩),J A2 ys.length c2] w (NetP (aA (decide ((ys.length:Int)≤rm - xs.length))) rm (netSent rm xs ys) b F w):=by
 by_cases h:(ys.length:Int)≤rm - xs.length
 ·rw[show netSent rm xs ys=xs ++ ys from if_pos h,decide_eq_true h]
  exact netSend_yes hN hR h
 ·rw[show netSent rm xs ys=xs from if_neg h,decide_eq_false h]
  exact netSend_no hN hl h
theorem netCopy_any {rm:Int} {xs:List Let} {b:Nat} {F:Set_} {w:cA} (hN:NetAt rm xs b F w):bB dA 52 #[bA (M ⟨b,0,U⟩)] w fun e w'=>∃ b',e=.returned (bA (M ⟨b',0,U⟩))/\NetAt rm xs b' (nw w) w'/\Below w.heap.size w w':=by
 have N:=AS hN
 obtain⟨v,hB,hO,hv,hb,hf,h1,h2,h3⟩:=hN
 have c0:=cw hB 0 (v:=V I rm)
 have B1:=AS hB
 have HL:=AS (netList_any N.out)
 clear hB hO hv hb hf
 go_enter Tryz.func52,Tryz.ntmps52
 go_wp2_with fail
 go_region_with (go_at_call 37;refine(netList_any (F:=F) (by exact N.out.keep (sB (qB (fun _=>False) w)) (fun x _ h=>⟨h,id⟩))).mono ?_;rintro e w1 ⟨u,rfl,hO,hf,hb⟩;obtain⟨A1,n1,k1,rfl⟩:∃ A n c,u=J A n c:=(by obtain⟨A,c,h,_⟩:=OwnE.row hO;exact⟨_,_,_,h⟩);have O1:=AS hO;have BB:=AS hb;have FF:=AS hf;have Y1:=AS (kA (w:=w.drew) B1.out (w1:=w1) hb);clear hO hb hf;have y0:w1.cell? ⟨b,0,U⟩=M (V I rm):=cw Y1.out 0)
 all_goals
  go_wp2
  go_ret
  have hb:Below w.heap.size w w1:=(iA (fA _ _)).trans BB.out
  have hs:=hb.size
  have hs1:∀ x∈foot (J A1 n1 k1),w.heap.size≤x:=FF.out
  refine⟨_,rfl,⟨_,nA w1 _,O1.out.ks (pB (fun _=>False) (eA (fA _ _) _)) (fun _ _=>id),?_,hs,hs1,h1,h2,h3⟩,eA hb _⟩
  intro hx
  have:=O1.out.lt _ hx
  omega
end Go.Proofs.YtiebppkhaiofeaaGreat.K
namespace Go.Proofs.YtiebppkhaiofeaaGreat.K
open Go.RowKit Go.Proofs.YtiebppkhaiofeaaGreatW.PrintWords Go.Proofs.YtiebppkhaiofeaaGreat.S
attribute [local go_sem] World.cell?_alloc_some
theorem total_live (w:cA):bB dA 44 #[V I 1,V I 0] w (RQ (V I 1) w):=by
 go_enter Tryz.func44,Tryz.ntmps44
 go_wp2_with (go_at_call 73;refine(clamp_any _ _ _ _).mono ?_;rintro e w1 ⟨rfl,rfl⟩;simp only[clamp])
 go_ret
 exact RQ.of (by show Value.int .i64 (wrap64 (max (min 1 64) 1 * wrap64 (wrap64 (2 ^ (max (min 0 8) 0+1:Int).toNat) - 1)))=_;refine congrArg _ ?_;rw[show max (min (1:Int) 64) 1=1 by omega,show max (min (0:Int) 8) 0=0 by omega,show(2:Int) ^ (0+1:Int).toNat=2 from rfl];unfold wrap64;omega)
def c0:Cfg:=⟨2,1,2,1,1,100,1,0,1⟩
theorem bound_live (w:cA):bB dA 19 #[cfgV c0,V I 1] w (RV (V I 19) w):=by
 simp only[cfgV,c0]
 go_enter Tryz.func19,Tryz.ntmps19
 go_wp2_with fail
 refine(config_any c0 _).mono ?_
 rintro e w1 ⟨rfl,hb⟩
 rw[show c0.check=0 by decide]
 obtain⟨hcl,hfr⟩:=bcell hb
 have B1:=AS hb
 clear hb
 go_wp2_with fail
 go_region_with (go_at_call 44;refine(total_live _).mono ?_;rintro e w2 ⟨rfl,rfl⟩)
 all_goals
  go_wp2
  go_ret
  exact RV.of (by rfl) (by repeat (first | with_reducible exact fA _ _ | with_reducible apply iA | with_reducible apply eA | exact bfin (eA (fA _ _) _) B1.out))
theorem rconfig_any (c:Cfg) (w:cA):bB dA 11 #[cfgV c] w (RV (V I c.check) w):=by
 obtain⟨n,b,t,se,wa,ca,wt,tr,po⟩:=c
 simp only[cfgV]
 go_enter Tryz.func11,Tryz.ntmps11
 go_wp2
 all_goals
  go_ret
  exact RV.of (by unfold Cfg.check within;(repeat' split) <;> first | rfl | (exfalso;simp_all;done) | (exfalso;simp_all;omega)) (by repeat (with_reducible first | exact fA _ _ | apply eA | apply iA))
end Go.Proofs.YtiebppkhaiofeaaGreat.K
namespace Go.Proofs.YtiebppkhaiofeaaGreat.K
open Go.RowKit Go.Proofs.YtiebppkhaiofeaaGreatW.PrintWords Go.Proofs.YtiebppkhaiofeaaGreat.S
end Go.Proofs.YtiebppkhaiofeaaGreat.K
namespace Go.Proofs.YtiebppkhaiofeaaGreat.S
open Go.RowKit (wrap64)
structure Good (T v:Int) (b:Bun):Prop where
 lo:0≤b.count
 hi:b.count≤T
 zero:b.count=0->b.owner=false/\b.has=false
 own:b.owner=true->b.has=true
 dat:b.has=false->b.data=0
 val:b.has=true->b.data=v
def cn (b:Bun):Int:=b.count
def ow (b:Bun):Int:=if b.owner then 1 else 0
theorem ow_nn (b:Bun):0≤ow b:=by unfold ow;split <;> omega
section
variable {T v:Int} {a b:Bun}
theorem good_b0 (h:0≤T):Good T v b0:=⟨Int.le_refl _,h,fun _=>⟨rfl,rfl⟩,(fun h=>by cases h),fun _=>rfl,(fun h=>by cases h)⟩
theorem Good.none (h:Good T v b) (h0:b.count≤0):b=b0:=by
 have hz:b.count=0:=by have:=h.lo;omega
 obtain⟨h1,h2⟩:=h.zero hz
 have h3:=h.dat h2
 cases b with
 | mk n o p d=>simp only at h1 h2 h3 hz;subst h1 h2 h3 hz;rfl
theorem Good.check (h:Good T v b):b.check T=0:=by
 have h1:=h.lo;have h2:=h.hi
 unfold Bun.check
 rw[if_neg vB,if_neg,if_neg]
 ·rintro(⟨q1,q2⟩ | ⟨q1,q2⟩)
  ·exact q2 (h.own q1)
  ·exact q2 (h.dat (by simpa using q1))
 ·rintro⟨q1,q2⟩
  have:=h.zero q1
  rw[this.1,this.2] at q2
  simp at q2
theorem Good.other (h:Good T v b) (h0:b.count≤0) (v':Int):Good T v' b:=by
 rw[h.none h0];exact good_b0 (by have:=h.lo;have:=h.hi;omega)
theorem splitM_good (g:Good T v b) (hT:T≤65536) {m:Int} {o d:Bool} (hm:m≤b.count) (ho:o=true->b.owner=true) (hl:b.owner=true->o=false->m < b.count∨m < 1) :
  Good T v (splitM b m o d).1/\Good T v (splitM b m o d).2/\cn (splitM b m o d).1+cn (splitM b m o d).2=cn b/\ow (splitM b m o d).1+ow (splitM b m o d).2=ow b:=by
 have h1:=g.lo;have h2:=g.hi
 unfold splitM
 by_cases q:m < 1
 ·rw[if_pos q]
  exact⟨good_b0 vB,g,by show 0+cn b=_;omega,by show 0+ow b=_;omega⟩
 ·rw[if_neg q]
  have hw:wrap64 (b.count - m)=b.count - m:=wrap_id vB vB
  refine⟨⟨by show 0≤m;omega,by show m≤T;omega,fun h=>?_,fun h=>?_,fun h=>?_,fun h=>?_⟩,?_,?_,?_⟩
  ·have:m=0:=h
   omega
  ·have:o=true:=h
   show(b.has && (d || o))=true
   rw[g.own (ho this),this];cases d <;> rfl
  ·have:(b.has && (d || o))=false:=h
   show(if (b.has && (d || o))=true then b.data else 0)=0
   rw[this];rfl
  ·have:(b.has && (d || o))=true:=h
   show(if (b.has && (d || o))=true then b.data else 0)=v
   rw[if_pos this]
   exact g.val (by revert this;cases b.has <;> simp)
  ·show Good T v (if m < b.count then valued (wrap64 (b.count - m)) (b.owner && !o) b.has b.data else b0)
   split
   ·rw[hw]
    refine⟨by show 0≤b.count - m;omega,by show b.count - m≤T;omega,fun h=>?_,fun h=>?_,fun h=>?_,fun h=>?_⟩
    ·have:b.count - m=0:=h
     omega
    ·have:(b.owner && !o)=true:=h
     exact g.own (by revert this;cases b.owner <;> simp)
    ·have:b.has=false:=h
     show(if b.has=true then b.data else 0)=0
     rw[this];rfl
    ·have:b.has=true:=h
     show(if b.has=true then b.data else 0)=v
     rw[if_pos this]
     exact g.val this
   ·exact good_b0 vB
  ·show m+cn (if m < b.count then valued (wrap64 (b.count - m)) (b.owner && !o) b.has b.data else b0)=b.count
   split
   ·rw[hw];show m+(b.count - m)=_;omega
   ·show m+0=_;omega
  ·show ow (valued m o (b.has && (d || o)) b.data)+ow (if m < b.count then valued (wrap64 (b.count - m)) (b.owner && !o) b.has b.data else b0)=ow b
   have e1:ow (valued m o (b.has && (d || o)) b.data)=if o then 1 else 0:=rfl
   rw[e1]
   by_cases q2:m < b.count
   ·rw[if_pos q2]
    have e2:ow (valued (wrap64 (b.count - m)) (b.owner && !o) b.has b.data)=if (b.owner && !o) then 1 else 0:=rfl
    rw[e2]
    unfold ow
    cases hb:b.owner <;> cases o
    ·rfl
    ·have:=ho rfl;rw[hb] at this;cases this
    ·rfl
    ·rfl
   ·rw[if_neg q2]
    show(if o then (1:Int) else 0)+0=ow b
    unfold ow
    cases hb:b.owner <;> cases o
    ·rfl
    ·have:=ho rfl;rw[hb] at this;cases this
    ·have:=hl hb rfl;omega
    ·rfl
theorem split_good (g:Good T v b) (hT:T≤65536) (n:Int) (o d:Bool) :
  Good T v (split b n o d).1/\Good T v (split b n o d).2/\cn (split b n o d).1+cn (split b n o d).2=cn b/\ow (split b n o d).1+ow (split b n o d).2=ow b:=by
 have h1:=g.lo;have h2:=g.hi
 have hc:clamp n 0 (max b.count 0)≤b.count/\0≤clamp n 0 (max b.count 0):=by unfold clamp;omega
 have hw:wrap64 (b.count - 1)=b.count - 1:=wrap_id vB vB
 unfold split splitK
 split
 ·rename_i q
  simp only[Bool.and_eq_true,decide_eq_true_eq] at q
  exact splitM_good g hT hc.1 (fun _=>q.1.2) (fun _ h=>by cases h)
 ·split
  ·refine splitM_good g hT vB (fun h=>by cases h) (fun _ _=>?_)
   rw[hw];omega
  ·rename_i q
   refine splitM_good g hT hc.1 (fun h=>by cases h) (fun h _=>absurd h q)
theorem split_all (g:Good T v b) (hT:T≤65536):(split b b.count true true).2=b0:=by
 have h1:=g.lo;have h2:=g.hi
 have hc:clamp b.count 0 (max b.count 0)=b.count:=by unfold clamp;omega
 unfold split
 rw[hc]
 unfold splitK splitM
 by_cases h0:b.count < 1
 ·have e:=g.none vB
  rw[e]
  rfl
 ·by_cases q:(true && b.owner && decide (0 < b.count))=true
  ·rw[if_pos q,if_neg h0]
   show(if b.count < b.count then _ else b0)=b0
   rw[if_neg vB]
  ·rw[if_neg q]
   by_cases q2:b.owner=true
   ·exact absurd (by simp[q2];omega) q
   ·rw[if_neg q2,if_neg h0]
    show(if b.count < b.count then _ else b0)=b0
    rw[if_neg vB]
theorem join_good (g:Good T v a) (k:Good T v b) (hs:a.count+b.count≤T) (hT:T≤65536) :
  Good T v (join a b)/\cn (join a b)=cn a+cn b/\(ow a+ow b≤1->ow (join a b)=ow a+ow b):=by
 have h1:=g.lo;have h2:=k.lo
 have hw:wrap64 (a.count+b.count)=a.count+b.count:=wrap_id vB vB
 unfold join
 rw[hw]
 refine⟨⟨by show 0≤a.count+b.count;omega,hs,fun h=>?_,fun h=>?_,fun h=>?_,fun h=>?_⟩,rfl,fun h=>?_⟩
 ·have h':a.count+b.count=0:=h
  have e1:=g.zero vB
  have e2:=k.zero vB
  show(a.owner || b.owner)=false/\(a.has || b.has)=false
  rw[e1.1,e1.2,e2.1,e2.2];exact⟨rfl,rfl⟩
 ·have h':(a.owner || b.owner)=true:=h
  show(a.has || b.has)=true
  cases e:a.owner
  ·rw[e] at h'
   rw[k.own (by simpa using h')];simp
  ·rw[g.own e];rfl
 ·have h':(a.has || b.has)=false:=h
  show(if (a.has || b.has)=true then (if b.has=true then b.data else a.data) else 0)=0
  rw[h'];rfl
 ·have h':(a.has || b.has)=true:=h
  show(if (a.has || b.has)=true then (if b.has=true then b.data else a.data) else 0)=v
  rw[if_pos h']
  split
  ·rename_i q;exact k.val q
  ·rename_i q
   refine g.val ?_
   revert h' q
   cases a.has <;> cases b.has <;> simp
 ·show(if (a.owner || b.owner)=true then (1:Int) else 0)=ow a+ow b
  unfold ow at h ⊢
  revert h
  cases a.owner <;> cases b.owner <;> simp
theorem join_b0 (g:Good T v b) (hT:T≤65536):join b0 b=b:=by
 have h1:=g.lo;have h2:=g.hi
 have hw:wrap64 (0+b.count)=b.count:=by rw[wrap_id vB vB];omega
 cases b with
 | mk n o p d =>
  unfold join valued b0
  simp only at hw ⊢
  rw[hw]
  cases p
  ·have:=g.dat rfl
   simp only at this
   rw[this];simp
  ·simp
theorem do_good (g:Good T v b) {op:Op} (h:(doOp op b T).2.2=true) (hT:1≤T) :
  (doOp op b T).2.1=(if op.write then op.value else v)/\Good T (if op.write then op.value else v) (doOp op b T).1/\(op.write=true->b.count=T)/\cn (doOp op b T).1=cn b/\ow (doOp op b T).1=ow b:=by
 unfold doOp at h ⊢
 cases hw:op.write
 ·rw[hw] at h
  simp only[Bool.false_and,vA,if_false,Bool.not_false,Bool.true_and] at h ⊢
  split at h
  ·rename_i q
   rw[if_pos q]
   unfold reads at q
   simp only[Bool.and_eq_true] at q
   exact⟨g.val q.2,g,(fun h=>by cases h),rfl,rfl⟩
  ·cases h
 ·rw[hw] at h
  simp only[Bool.true_and,Bool.not_true,Bool.false_and,vA,if_false,if_true] at h ⊢
  split at h
  ·rename_i q
   rw[if_pos q]
   unfold writes reads at q
   simp only[Bool.and_eq_true,beq_iff_eq] at q
   refine⟨rfl,⟨g.lo,g.hi,g.zero,g.own,fun h=>?_,fun _=>rfl⟩,fun _=>q.2,rfl,rfl⟩
   have h':b.has=false:=h
   rw[q.1.2] at h';cases h'
  ·cases h
theorem do_all (g:Good T v b) (op:Op) (hc:b.count=T) (ho:b.owner=true) (hT:1≤T):(doOp op b T).2.2=true:=by
 have hh:=g.own ho
 have hr:reads b=true:=by unfold reads;rw[hh,decide_eq_true vB];rfl
 have hw:writes b T=true:=by unfold writes;rw[hr,hc];simp
 unfold doOp
 rw[hr,hw]
 cases op.write <;> rfl
end
def lsum (f:Bun->Int) (x:Int) (ls:List Let):Int:=(ls.map fun l=>if l.kind=1/\l.block=x then f l.bun else 0).sum
def nsum (f:Bun->Int) (x:Int) (ns:List Node):Int:=(ns.map fun n=>f (n.lines.tok x)).sum
def tally (f:Bun->Int) (x:Int) (w:World):Int:=f (w.home.get x)+nsum f x w.nodes+lsum f x w.way
section
variable (f:Bun->Int) (x:Int)
theorem lsum_nil:lsum f x []=0:=rfl
theorem lsum_cons (l:Let) (ls:List Let):lsum f x (l :: ls)=(if l.kind=1/\l.block=x then f l.bun else 0)+lsum f x ls:=by simp[lsum]
theorem lsum_app (a b:List Let):lsum f x (a ++ b)=lsum f x a+lsum f x b:=by
 induction a with
 | nil=>simp[lsum]
 | cons l ls ih=>rw[List.cons_append,lsum_cons,lsum_cons,ih];omega
theorem lsum_no (ls:List Let) (h:∀ l∈ls,l.kind≠1):lsum f x ls=0:=by
 induction ls with
 | nil=>rfl
 | cons l ls ih =>
  rw[lsum_cons,if_neg (fun q=>h l (wA) q.1),ih (fun y hy=>h y (kB _ hy))];rfl
theorem nsum_set:∀ (ns:List Node) (j:Nat) (n d:Node),j < ns.length->nsum f x (ns.set j n)=nsum f x ns - f ((ns.getD j d).lines.tok x)+f (n.lines.tok x)
 | [],j,n,d,h=>by cases h
 | y :: ns,0,n,d,h=>by simp[nsum];omega
 | y :: ns,j+1,n,d,h=>by
  have:=nsum_set ns j n d (by simpa using h)
  unfold nsum at this ⊢
  simp only[List.set_cons_succ,List.map_cons,List.sum_cons,List.getD_cons_succ] at this ⊢
  omega
theorem nsum_nn (hf:∀ n∈([]:List Node),True):∀ (ns:List Node),(∀ n∈ns,0≤f (n.lines.tok x))->0≤nsum f x ns/\∀ (j:Nat) (d:Node),j < ns.length->f ((ns.getD j d).lines.tok x)≤nsum f x ns
 | [],h=>⟨Int.le_refl _,fun j d hj=>by cases hj⟩
 | y :: ns,h=>by
  obtain⟨h1,h2⟩:=nsum_nn hf ns (fun n hn=>h n (kB _ hn))
  have h0:=h y wA
  have e:nsum f x (y :: ns)=f (y.lines.tok x)+nsum f x ns:=by simp[nsum]
  rw[e]
  refine⟨vB,fun j d hj=>?_⟩
  cases j with
  | zero=>show f (y.lines.tok x)≤_;omega
  | succ j=>have:=h2 j d (by simpa using hj);rw[List.getD_cons_succ];omega
theorem nsum_two:∀ (ns:List Node),(∀ n∈ns,0≤f (n.lines.tok x))->∀ (j k:Nat) (d e:Node),j < ns.length->k < ns.length->j≠k->f ((ns.getD j d).lines.tok x)+f ((ns.getD k e).lines.tok x)≤nsum f x ns
 | [],h,j,k,d,e',hj,hk,hn=>by cases hj
 | y :: ns,h,j,k,d,e',hj,hk,hn=>by
  obtain⟨h1,h2⟩:=nsum_nn f x (fun _ _=>trivial) ns (fun n hn=>h n (kB _ hn))
  have h0:=h y wA
  have e:nsum f x (y :: ns)=f (y.lines.tok x)+nsum f x ns:=by simp[nsum]
  rw[e]
  cases j with
  | zero =>
   cases k with
   | zero=>exact absurd rfl hn
   | succ k=>have:=h2 k e' (by simpa using hk);rw[List.getD_cons_succ];show f (y.lines.tok x)+_≤_;omega
  | succ j =>
   cases k with
   | zero=>have:=h2 j d (by simpa using hj);rw[List.getD_cons_succ];show _+f (y.lines.tok x)≤_;omega
   | succ k =>
    have:=nsum_two ns (fun n hn=>h n (kB _ hn)) j k d e' (by simpa using hj) (by simpa using hk) vB
    rw[List.getD_cons_succ,List.getD_cons_succ];omega
theorem lsum_nn:∀ (ls:List Let),(∀ l∈ls,l.kind=1->0≤f l.bun)->0≤lsum f x ls
 | [],h=>Int.le_refl _
 | l :: ls,h=>by
  have h1:=lsum_nn ls (fun n hn=>h n (kB _ hn))
  rw[lsum_cons]
  split
  ·rename_i q;have:=h l wA q.1;omega
  ·omega
theorem lsum_mem:∀ (ls:List Let),(∀ l∈ls,l.kind=1->0≤f l.bun)->∀ l∈ls,l.kind=1->l.block=x->f l.bun≤lsum f x ls
 | [],h,l,hl,h1,h2=>by cases hl
 | y :: ls,h,l,hl,h1,h2=>by
  have k1:=lsum_nn f x ls (fun n hn=>h n (kB _ hn))
  rw[lsum_cons]
  rcases List.mem_cons.1 hl with q | q
  ·subst q
   rw[if_pos ⟨h1,h2⟩];omega
  ·have:=lsum_mem ls (fun n hn=>h n (kB _ hn)) l q h1 h2
   split
   ·rename_i q;have:=h y wA q.1;omega
   ·omega
end
structure Tok (c:Cfg) (v:Int->Int) (w:World):Prop where
 node:∀ n∈w.nodes,∀ x,Good c.tokens (v x) (n.lines.tok x)
 home:∀ x,Good c.tokens (v x) (w.home.get x)
 way:∀ l∈w.way,l.kind=1->Good c.tokens (v l.block) l.bun
 cnt:∀ x,0≤x->x < c.blocks->tally cn x w=c.tokens
 own:∀ x,0≤x->x < c.blocks->tally ow x w=1
section
variable {c:Cfg} {v v':Int->Int} {w:World}
theorem good_cn {T v:Int} {b:Bun} (h:Good T v b):0≤cn b:=h.lo
theorem Tok.node_move (h:Tok c v w) {ins rest:List Let} (hw:w.way=ins ++ rest) {j:Nat} (hj:j < w.nodes.length) {n':Node} {ls:List Let} {w':World}
  (e1:w'.nodes=w.nodes.set j n') (e2:w'.home=w.home) (e3:w'.way=rest ++ ls)
  (hn:∀ x,Good c.tokens (v' x) (n'.lines.tok x)) (hl:∀ l∈ls,l.kind=1->Good c.tokens (v' l.block) l.bun)
  (hc:∀ x,0≤x->x < c.blocks->cn (n'.lines.tok x)+lsum cn x ls=cn ((w.nodes.getD j (Node.new j)).lines.tok x)+lsum cn x ins)
  (ho:∀ x,0≤x->x < c.blocks->ow (n'.lines.tok x)+lsum ow x ls=ow ((w.nodes.getD j (Node.new j)).lines.tok x)+lsum ow x ins)
  (hv:∀ x,v' x≠v x->0≤x/\x < c.blocks/\(n'.lines.tok x).count=c.tokens):Tok c v' w':=by
 have hin:∀ l∈ins,l.kind=1->Good c.tokens (v l.block) l.bun:=fun l hl'=>h.way l (by rw[hw];exact List.mem_append.2 (.inl hl'))
 have hre:∀ l∈rest,l.kind=1->Good c.tokens (v l.block) l.bun:=fun l hl'=>h.way l (by rw[hw];exact List.mem_append.2 (.inr hl'))
 have cnt:∀ x,0≤x->x < c.blocks->tally cn x w'=c.tokens:=fun x h0 h1=>by
  have h2:=h.cnt x h0 h1
  have h3:=hc x h0 h1
  have h4:=nsum_set cn x w.nodes j n' (Node.new j) hj
  unfold tally at h2 ⊢
  rw[e1,e2,e3,lsum_app,h4]
  rw[hw,lsum_app] at h2
  omega
 have own:∀ x,0≤x->x < c.blocks->tally ow x w'=1:=fun x h0 h1=>by
  have h2:=h.own x h0 h1
  have h3:=ho x h0 h1
  have h4:=nsum_set ow x w.nodes j n' (Node.new j) hj
  unfold tally at h2 ⊢
  rw[e1,e2,e3,lsum_app,h4]
  rw[hw,lsum_app] at h2
  omega
 have zero:∀ x,v' x≠v x->(w.home.get x).count≤0/\(∀ k,k < w.nodes.length->k≠j->(cn ((w.nodes.getD k (Node.new k)).lines.tok x))≤0)/\∀ l∈rest,l.kind=1->l.block=x->l.bun.count≤0:=fun x hx=>by
  obtain⟨h0,h1,h2⟩:=hv x hx
  have h3:=h.cnt x h0 h1
  have h4:=hc x h0 h1
  have h5:cn (n'.lines.tok x)=c.tokens:=h2
  have n1:=good_cn (h.home x)
  have nn:∀ n∈w.nodes,0≤cn (n.lines.tok x):=fun n hn=>good_cn (h.node n hn x)
  obtain⟨n2,n3⟩:=nsum_nn cn x (fun _ _=>trivial) w.nodes nn
  have n4:=lsum_nn cn x rest (fun l hl h1=>good_cn (hre l hl h1))
  have n5:=lsum_nn cn x ins (fun l hl h1=>good_cn (hin l hl h1))
  have n6:=n3 j (Node.new j) hj
  have n7:=lsum_nn cn x ls (fun l hl' h1=>good_cn (hl l hl' h1))
  unfold tally at h3
  rw[hw,lsum_app] at h3
  refine⟨by show cn (w.home.get x)≤0;omega,fun k hk hkj=>?_,fun l hl' hk hb=>?_⟩
  ·have:=nsum_two cn x w.nodes nn j k (Node.new j) (Node.new k) hj hk (fun e=>hkj e.symm)
   omega
  ·have:=lsum_mem cn x rest (fun l hl h1=>good_cn (hre l hl h1)) l hl' hk hb
   show cn l.bun≤0
   omega
 refine⟨fun n hn' x=>?_,fun x=>?_,fun l hl' h1=>?_,cnt,own⟩
 ·rw[e1] at hn'
  obtain⟨k,hk,rfl⟩:=List.getElem_of_mem hn'
  rw[List.length_set] at hk
  rw[List.getElem_set]
  split
  ·exact hn x
  ·rename_i q
   have hg:=h.node _ (List.getElem_mem hk) x
   by_cases e:v' x=v x
   ·rw[e];exact hg
   ·have:=(zero x e).2.1 k hk (fun e=>q e.symm)
    rw[cB,dB hk] at this
    exact hg.other this _
 ·rw[e2]
  by_cases e:v' x=v x
  ·rw[e];exact h.home x
  ·exact(h.home x).other (zero x e).1 _
 ·rw[e3] at hl'
  rcases List.mem_append.1 hl' with q | q
  ·by_cases e:v' l.block=v l.block
   ·rw[e];exact hre l q h1
   ·exact(hre l q h1).other ((zero _ e).2.2 l q h1 rfl) _
  ·exact hl l q h1
theorem Tok.home_move (h:Tok c v w) {ins rest:List Let} (hw:w.way=ins ++ rest) {ls:List Let} {w':World}
  (e1:w'.nodes=w.nodes) (e3:w'.way=rest ++ ls)
  (hn:∀ x,Good c.tokens (v x) (w'.home.get x)) (hl:∀ l∈ls,l.kind=1->Good c.tokens (v l.block) l.bun)
  (hc:∀ x,0≤x->x < c.blocks->cn (w'.home.get x)+lsum cn x ls=cn (w.home.get x)+lsum cn x ins)
  (ho:∀ x,0≤x->x < c.blocks->ow (w'.home.get x)+lsum ow x ls=ow (w.home.get x)+lsum ow x ins):Tok c v w':=by
 refine⟨fun n hn' x=>h.node n (by rw[<- e1];exact hn') x,hn,fun l hl' h1=>?_,fun x h0 h1=>?_,fun x h0 h1=>?_⟩
 ·rw[e3] at hl'
  rcases List.mem_append.1 hl' with q | q
  ·exact h.way l (by rw[hw];exact List.mem_append.2 (.inr q)) h1
  ·exact hl l q h1
 ·have h2:=h.cnt x h0 h1
  have h3:=hc x h0 h1
  unfold tally at h2 ⊢
  rw[e1,e3,lsum_app]
  rw[hw,lsum_app] at h2
  omega
 ·have h2:=h.own x h0 h1
  have h3:=ho x h0 h1
  unfold tally at h2 ⊢
  rw[e1,e3,lsum_app]
  rw[hw,lsum_app] at h2
  omega
theorem Tok.two (h:Tok c v w) {l:Let} (hl:l∈w.way) (hk:l.kind=1) (h0:0≤l.block) (h1:l.block < c.blocks) {j:Nat} (hj:j < w.nodes.length) :
  ((w.nodes.getD j (Node.new j)).lines.tok l.block).count+l.bun.count≤c.tokens/\ow ((w.nodes.getD j (Node.new j)).lines.tok l.block)+ow l.bun≤1:=by
 have a1:=h.cnt _ h0 h1
 have a2:=h.own _ h0 h1
 have b1:=lsum_mem cn l.block w.way (fun l hl h1=>good_cn (h.way l hl h1)) l hl hk rfl
 have b2:=lsum_mem ow l.block w.way (fun l hl h1=>ow_nn _) l hl hk rfl
 have c1:=(nsum_nn cn l.block (fun _ _=>trivial) w.nodes (fun n hn=>good_cn (h.node n hn _))).2 j (Node.new j) hj
 have c2:=(nsum_nn ow l.block (fun _ _=>trivial) w.nodes (fun n hn=>ow_nn _)).2 j (Node.new j) hj
 have d1:=good_cn (h.home l.block)
 have d2:=ow_nn (w.home.get l.block)
 unfold tally at a1 a2
 refine⟨?_,vB⟩
 show cn _+cn _≤_
 omega
theorem Tok.twoH (h:Tok c v w) {l:Let} (hl:l∈w.way) (hk:l.kind=1) (h0:0≤l.block) (h1:l.block < c.blocks) :
  (w.home.get l.block).count+l.bun.count≤c.tokens/\ow (w.home.get l.block)+ow l.bun≤1:=by
 have a1:=h.cnt _ h0 h1
 have a2:=h.own _ h0 h1
 have b1:=lsum_mem cn l.block w.way (fun l hl h1=>good_cn (h.way l hl h1)) l hl hk rfl
 have b2:=lsum_mem ow l.block w.way (fun l hl h1=>ow_nn _) l hl hk rfl
 have c1:=(nsum_nn cn l.block (fun _ _=>trivial) w.nodes (fun n hn=>good_cn (h.node n hn _))).1
 have c2:=(nsum_nn ow l.block (fun _ _=>trivial) w.nodes (fun n hn=>ow_nn _)).1
 unfold tally at a1 a2
 refine⟨?_,vB⟩
 show cn _+cn _≤_
 omega
end
end Go.Proofs.YtiebppkhaiofeaaGreat.S
