/- Part of the proof of TopStarver: what functions of the program do. -/
import Derived.Test.YtiebppkhaiofeaaGreatS14
import Derived.Test.YtiebppkhaiofeaaGreatS15
set_option maxHeartbeats 4000000
set_option maxRecDepth 100000
set_option linter.unusedVariables false
set_option linter.unusedSimpArgs false
namespace Go.Proofs.YtiebppkhaiofeaaGreat.K
open Go.RowKit Go.Proofs.YtiebppkhaiofeaaGreatW.PrintWords Go.Proofs.YtiebppkhaiofeaaGreat.S
attribute [local go_sem] World.cell?_alloc_some
open Go.ChangeMaps Go.MapKept
theorem end_len (c:Cfg) (n:S.Node) (b:Int) (o:S.Out):(n.end_ c b o).2.letters.length≤o.letters.length+1/\(n.end_ c b o).2.done=o.done:=by
 unfold Node.end_
 cases n.own b with
 | none=>exact⟨by show o.letters.length≤_;omega,rfl⟩
 | some a =>
  by_cases q:a.seq≤n.told b
  ·simp only[if_pos q];exact⟨by omega,trivial⟩
  ·simp only[if_neg q,Out.send];exact⟨by simp,trivial⟩
theorem settle_len (c:Cfg) (n:S.Node) (o:S.Out):(n.settle c o).2.letters.length≤o.letters.length+1/\(n.settle c o).2.done.length≤o.done.length+1:=by
 unfold Node.settle
 split
 ·exact⟨by show o.letters.length≤_;omega,by show o.done.length≤_;omega⟩
 ·simp only
  split
  ·exact⟨by show o.letters.length≤_;omega,by show o.done.length≤_;omega⟩
  ·have:=end_len c ({ n with lines:=(n.lines.doIt c n.cpu.op).1,cpu:=n.cpu.finish.1 }:S.Node) n.cpu.op.block { o with done:=o.done ++ [(⟨n.id,n.cpu.finish.2.1,n.cpu.op,(n.lines.doIt c n.cpu.op).2.1,0⟩:S.Done)]}
   refine⟨this.1,?_⟩
   rw[this.2];simp
theorem pissue_no {c:Cfg} {p:S.Proc} {op:S.Op} (h:(p.issue c op).2=false):(p.issue c op).1=p:=by
 unfold Proc.issue at *
 split at h
 ·rename_i q;rw[if_pos q]
 ·cases h
theorem nodeIssue_aux {c:Cfg} {n:S.Node} {p:NPtr} {K:Nat->Nat} {w:Go.World} (hN:NodeK c n p K w) (hpq:p.q=w.heap.size+3) (h6:∀ x,x < w.heap.size->K x≠6) (op:S.Op) (d:Drw):Calls Tryz.prog 54 #[.pointer (some ⟨p.b,0,none⟩),opV op,drwV d] w (NRes (fun a b=>.tuple #[.agg #[a,b],.bool (n.issue c op d).2.2]) c (n.issue c op d).1 (n.issue c op d).2.1 p K w):=by
 obtain⟨d0,d1,d2⟩:=d
 obtain⟨ob,ow,ov⟩:=op
 have H6:=AS h6
 have e1:(w.alloc (.cells #[.int .i64 ob,.bool ow,.int .i64 ov] 50)).heap.size=w.heap.size+1:=by simp
 have e2:((w.alloc (.cells #[.int .i64 ob,.bool ow,.int .i64 ov] 50)).alloc (.cells #[.int .i64 d0,.int .i64 d1,.int .i64 d2] 74)).heap.size=w.heap.size+2:=by simp
 have e3:(((w.alloc (.cells #[.int .i64 ob,.bool ow,.int .i64 ov] 50)).alloc (.cells #[.int .i64 d0,.int .i64 d1,.int .i64 d2] 74)).alloc (.cells #[.slice none 0 0,.slice none 0 0] 138)).heap.size=w.heap.size+3:=by simp
 have N1:=AS (hN.start (W:=((((w.alloc (.cells #[.int .i64 ob,.bool ow,.int .i64 ov] 50)).alloc (.cells #[.int .i64 d0,.int .i64 d1,.int .i64 d2] 74)).alloc (.cells #[.slice none 0 0,.slice none 0 0] 138)).alloc (.cells #[.slice none 0 0,.slice none 0 0] 138))) (q:=w.heap.size+3) (below_alloc (below_alloc (below_alloc (below_alloc (Below.refl _ _) _) _) _) _) (by omega) (by rw[<- e3];exact blk_new _ _) [(w.heap.size+2,(.cells #[.slice none 0 0,.slice none 0 0] 138:Obj)),(w.heap.size+1,(.cells #[.int .i64 d0,.int .i64 d1,.int .i64 d2] 74:Obj)),(w.heap.size,(.cells #[.int .i64 ob,.bool ow,.int .i64 ov] 50:Obj))] (by
  intro x hx
  simp only[List.mem_cons,List.not_mem_nil,or_false] at hx
  rcases hx with rfl | rfl | rfl
  ·exact⟨by simp,by simp,blk_alloc (by rw[<- e2];exact blk_new _ _) _⟩
  ·exact⟨by simp,by simp,blk_alloc (blk_alloc (by rw[<- e1];exact blk_new _ _) _) _⟩
  ·exact⟨by simp,by simp,blk_alloc (blk_alloc (blk_alloc (blk_new _ _) _) _) _⟩) (by simp))
 rw[show({ p with q:=w.heap.size+3 }:NPtr)=p from by rw[<- hpq]] at N1
 have HR:=AS (show n.issue c ⟨ob,ow,ov⟩ ⟨d0,d1,d2⟩=if ob < 0∨ob≥c.blocks then (n,out0,false) else if !(n.cpu.issue c ⟨ob,ow,ov⟩).2 then (n,out0,false) else ((({ n with cpu:=(n.cpu.issue c ⟨ob,ow,ov⟩).1 }:S.Node).settle c out0).1,if (({ n with cpu:=(n.cpu.issue c ⟨ob,ow,ov⟩).1 }:S.Node).settle c out0).1.cpu.busy then (({ n with cpu:=(n.cpu.issue c ⟨ob,ow,ov⟩).1 }:S.Node).settle c out0).1.ask c ⟨ob,ow,ov⟩ ⟨d0,d1,d2⟩ (({ n with cpu:=(n.cpu.issue c ⟨ob,ow,ov⟩).1 }:S.Node).settle c out0).2 else (({ n with cpu:=(n.cpu.issue c ⟨ob,ow,ov⟩).1 }:S.Node).settle c out0).2,true) from rfl)
 have IN:=AS (pissue_no (c:=c) (p:=n.cpu) (op:=⟨ob,ow,ov⟩))
 have HS:=AS (show ∀ pr:S.Proc,((({ n with cpu:=pr }:S.Node).settle c out0).2.letters.length≤1/\(({ n with cpu:=pr }:S.Node).settle c out0).1.id=n.id) from fun pr=>⟨(settle_len c _ out0).1,(settle_still c _ out0 Still.nil).2.1⟩)
 show Calls Tryz.prog 54 #[.pointer (some ⟨p.b,0,none⟩),.agg #[.int .i64 ob,.bool ow,.int .i64 ov],.agg #[.int .i64 d0,.int .i64 d1,.int .i64 d2]] w (NRes (fun a b=>.tuple #[.agg #[a,b],.bool (n.issue c ⟨ob,ow,ov⟩ ⟨d0,d1,d2⟩).2.2]) c (n.issue c ⟨ob,ow,ov⟩ ⟨d0,d1,d2⟩).1 (n.issue c ⟨ob,ow,ov⟩ ⟨d0,d1,d2⟩).2.1 p K w)
 generalize n.issue c ⟨ob,ow,ov⟩ ⟨d0,d1,d2⟩=R at *
 clear hN h6 e1 e2 e3
 have CE:=AS (show ∀ (n':S.Node) (W':Go.World),n'.id=n.id->W'.heap[p.b]?=some (.cells (nodeC c n' p) 133 (0,0))->(W'.cell? ⟨p.b,0,none⟩=some (.int .i64 c.nodes)/\W'.cell? ⟨p.b,1,none⟩=some (.int .i64 c.blocks)/\W'.cell? ⟨p.b,2,none⟩=some (.int .i64 c.tokens)/\W'.cell? ⟨p.b,3,none⟩=some (.int .i64 c.sets)/\W'.cell? ⟨p.b,4,none⟩=some (.int .i64 c.ways)/\W'.cell? ⟨p.b,5,none⟩=some (.int .i64 c.cap)/\W'.cell? ⟨p.b,6,none⟩=some (.int .i64 c.wait)/\W'.cell? ⟨p.b,7,none⟩=some (.int .i64 c.tries)/\W'.cell? ⟨p.b,8,none⟩=some (.int .i64 c.policy)/\W'.cell? ⟨p.b,9,none⟩=some (.int .i64 n.id)/\W'.cell? ⟨p.b,10,none⟩=some (.pointer (some ⟨p.bc,0,none⟩))/\W'.cell? ⟨p.b,11,none⟩=some (.pointer (some ⟨p.bt,0,none⟩))/\W'.cell? ⟨p.b,12,none⟩=some (.pointer (some ⟨p.bp,0,none⟩))/\W'.cell? ⟨p.b,13,none⟩=some (.map (some p.ba))/\W'.cell? ⟨p.b,14,none⟩=some (.map (some p.bo))) from fun n' W' hi h=>⟨cw h 0,cw h 1,cw h 2,cw h 3,cw h 4,cw h 5,cw h 6,cw h 7,cw h 8,by rw[<- hi];exact(cw h 9),cw h 10,cw h 11,cw h 12,cw h 13,cw h 14⟩)
 generalize hpb:p.b=pb at *
 go_enter Tryz.func54,Tryz.ntmps54
 go_upto_region 2 with fail
 generalize ((((w.alloc (.cells #[.int .i64 ob,.bool ow,.int .i64 ov] 50)).alloc (.cells #[.int .i64 d0,.int .i64 d1,.int .i64 d2] 74)).alloc (.cells #[.slice none 0 0,.slice none 0 0] 138)).alloc (.cells #[.slice none 0 0,.slice none 0 0] 138))=W at N1 ⊢
 generalize hg:w.heap.size=g at *
 by_cases q1:ob < 0∨ob≥c.blocks
 case pos =>
  have hr:=HR.out.trans (if_pos q1)
  have KEEP:=AS (show ∀ (n':S.Node) (o':S.Out) (bx:List (Nat×Obj)) x,NX c n' o' p K w bx x->n'.id=n.id->(g,(.cells #[.int .i64 ob,.bool ow,.int .i64 ov] 50:Obj))∈bx->(x.cell? ⟨g,0,none⟩=some (.int .i64 ob)/\x.cell? ⟨pb,1,none⟩=some (.int .i64 c.blocks)) from fun n' o' bx x hx hid m0=>by
   have hce:=(show _ from by have h11:=hx.node;rw[hpb] at h11;exact CE.out n' _ hid h11)
   have hb0:=hx.at_ m0
   exact⟨cw hb0 0,hce.2.1⟩)
  have hS_:=KEEP.out _ _ _ _ N1.out rfl (by simp)
  have e0_:=hS_.1
  have e1_:=hS_.2
  clear hS_
  go_cut [32] (fun v32 wx=>v32=.bool true/\NX c n out0 p K w [(g+2,(.cells #[.slice none 0 0,.slice none 0 0] 138:Obj)),(g+1,(.cells #[.int .i64 d0,.int .i64 d1,.int .i64 d2] 74:Obj)),(g,(.cells #[.int .i64 ob,.bool ow,.int .i64 ov] 50:Obj))] wx)
  case first =>
   by_cases q2:ob < 0
   case pos =>
    have hd:decide (ob < 0)=true:=by simp[q2]
    go_region
    all_goals
     go_wp2_with fail
     go_meet
     exact⟨rfl,N1.out.drew⟩
   case neg =>
    have q3:ob≥c.blocks:=q1.resolve_left q2
    have hd:decide (ob < 0)=false:=decide_eq_false q2
    have hd2:decide (c.blocks≤ob)=true:=by simp;omega
    have hd3:decide (ob≥c.blocks)=true:=by simp;omega
    go_region
    all_goals
     go_wp2_with fail
     go_meet
     exact⟨rfl,N1.out.drew⟩
  case rest =>
   obtain⟨rfl,hcut⟩:=hcut
   have N2:=AS hcut
   clear hcut KEEP N1 e0_ e1_
   obtain⟨A1,n1,c1,A2,n2,c2,hq_⟩:=N2.out.outs
   have HQ:=AS hq_
   have HQ2:=AS (show wc.heap[g+3]?=some (.cells #[.slice A1 n1 c1,.slice A2 n2 c2] 138 (0,0)) from by rw[<- hpq];exact hq_)
   have q0_:=cw HQ2.out 0 (v:=.slice A1 n1 c1)
   have q1_:=cw HQ2.out 1 (v:=.slice A2 n2 c2)
   have RB:=AS (N2.out.at_ (g:=g+2) (ob:=.cells #[.slice none 0 0,.slice none 0 0] 138) (by simp))
   have r0_:=cw RB.out 0 (v:=.slice none 0 0)
   have r1_:=cw RB.out 1 (v:=.slice none 0 0)
   have rz0_:=blk_frozen RB.out 0
   have rz1_:=blk_frozen RB.out 1
   clear hq_
   go_wp2
   refine bodyPost_ret (v:=.tuple #[.agg #[.slice A1 n1 c1,.slice A2 n2 c2],.bool false]) (by simp[results,Tryz.results54,go_sem,r0_,r1_]) rfl ?_
   (try rw[hr])
   exact NX.fin (v:=fun a b=>.tuple #[.agg #[a,b],.bool false]) (r:=g+2) (ob:=.cells #[.slice none 0 0,.slice none 0 0] 138) N2.out (by simp) (fun x hx=>H6.out x (by rw[<- hg];exact hx)) HQ.out (by repeat (with_reducible first | exact KS.refl _ _ | apply KS.drew | apply KS.set1))
 case neg =>
  have hr:=HR.out.trans (if_neg q1)
  clear HR
  have HR:=AS hr
  clear hr
  have hd:decide (ob < 0)=false:=by simp;omega
  have hd2:decide (c.blocks≤ob)=false:=by simp;omega
  have hd3:decide (ob≥c.blocks)=false:=by simp;omega
  have KEEP:=AS (show ∀ (n':S.Node) (o':S.Out) (bx:List (Nat×Obj)) x,NX c n' o' p K w bx x->n'.id=n.id->(g,(.cells #[.int .i64 ob,.bool ow,.int .i64 ov] 50:Obj))∈bx->(x.cell? ⟨g,0,none⟩=some (.int .i64 ob)/\x.cell? ⟨g,1,none⟩=some (.bool ow)/\x.cell? ⟨g,2,none⟩=some (.int .i64 ov)/\x.cell? ⟨pb,1,none⟩=some (.int .i64 c.blocks)/\x.cell? ⟨pb,12,none⟩=some (.pointer (some ⟨p.bp,0,none⟩))) from fun n' o' bx x hx hid m0=>by
   have hce:=(show _ from by have h11:=hx.node;rw[hpb] at h11;exact CE.out n' _ hid h11)
   have hb0:=hx.at_ m0
   exact⟨cw hb0 0,cw hb0 1,cw hb0 2,hce.2.1,hce.2.2.2.2.2.2.2.2.2.2.2.2.1⟩)
  have hS_:=KEEP.out _ _ _ _ N1.out rfl (by simp)
  have e0_:=hS_.1
  have e1_:=hS_.2.1
  have e2_:=hS_.2.2.1
  have e3_:=hS_.2.2.2.1
  have e4_:=hS_.2.2.2.2
  clear hS_
  have IS:=AS (N1.out.drew.call (fun K1 h=>h.pissue ⟨ob,ow,ov⟩))
  simp only[opV] at IS
  generalize n.cpu.issue c ⟨ob,ow,ov⟩=is_ at *
  obtain⟨ip,ik⟩:=is_
  simp only at IS HR IN
  go_cut [32] (fun v32 wx=>v32=.bool (!ik)/\NX c { n with cpu:=ip } out0 p K w [(g+2,(.cells #[.slice none 0 0,.slice none 0 0] 138:Obj)),(g+1,(.cells #[.int .i64 d0,.int .i64 d1,.int .i64 d2] 74:Obj)),(g,(.cells #[.int .i64 ob,.bool ow,.int .i64 ov] 50:Obj))] wx)
  case first =>
   go_region_with (go_at_call 83;refine IS.out.mono ?_;rintro e w2 ⟨rfl,h2⟩;have N2:=AS h2;clear h2)
   all_goals
    go_wp2_with fail
    go_meet
    exact⟨rfl,N2.out⟩
  case rest =>
   obtain⟨rfl,hcut⟩:=hcut
   have N2:=AS hcut
   clear hcut KEEP IS N1 e0_ e1_ e2_ e3_ e4_
   cases ik
   case false =>
    have hr:=HR.out.trans (if_pos rfl)
    obtain rfl:=IN.out rfl
    obtain⟨A1,n1,c1,A2,n2,c2,hq_⟩:=N2.out.outs
    have HQ:=AS hq_
    have HQ2:=AS (show wc.heap[g+3]?=some (.cells #[.slice A1 n1 c1,.slice A2 n2 c2] 138 (0,0)) from by rw[<- hpq];exact hq_)
    have q0_:=cw HQ2.out 0 (v:=.slice A1 n1 c1)
    have q1_:=cw HQ2.out 1 (v:=.slice A2 n2 c2)
    have RB:=AS (N2.out.at_ (g:=g+2) (ob:=.cells #[.slice none 0 0,.slice none 0 0] 138) (by simp))
    have r0_:=cw RB.out 0 (v:=.slice none 0 0)
    have r1_:=cw RB.out 1 (v:=.slice none 0 0)
    have rz0_:=blk_frozen RB.out 0
    have rz1_:=blk_frozen RB.out 1
    clear hq_
    go_wp2
    refine bodyPost_ret (v:=.tuple #[.agg #[.slice A1 n1 c1,.slice A2 n2 c2],.bool false]) (by simp[results,Tryz.results54,go_sem,r0_,r1_]) rfl ?_
    (try rw[hr])
    exact NX.fin (v:=fun a b=>.tuple #[.agg #[a,b],.bool false]) (r:=g+2) (ob:=.cells #[.slice none 0 0,.slice none 0 0] 138) N2.out (by simp) (fun x hx=>H6.out x (by rw[<- hg];exact hx)) HQ.out (by repeat (with_reducible first | exact KS.refl _ _ | apply KS.drew | apply KS.set1))
   case true =>
    have hr:=HR.out.trans (if_neg (by simp))
    clear HR IN
    have HR:=AS hr
    clear hr
    have ST:=AS (N2.out.call (fun K1 h=>nodeSettle_any h (by show 0≤_;omega) (by show 0≤_;omega)))
    rw[hpb,hpq] at ST
    have HS2:=AS (HS.out ip)
    clear HS
    generalize ({ n with cpu:=ip }:S.Node).settle c out0=st at *
    obtain⟨n2,o2⟩:=st
    simp only at ST HR HS2
    go_wp2_with fail
    refine ST.out.mono ?_
    rintro e w3 ⟨rfl,h3⟩
    have N3:=AS h3
    clear h3 ST N2
    have hid2:=HS2.out.2
    have K0:=AS (show ∀ (n':S.Node) (o':S.Out) (bx:List (Nat×Obj)) x,NX c n' o' p K w bx x->n'.id=n.id->(x.cell? ⟨pb,12,none⟩=some (.pointer (some ⟨p.bp,0,none⟩))) from fun n' o' bx x hx hid=>by
     have hce:=(show _ from by have h11:=hx.node;rw[hpb] at h11;exact CE.out n' _ hid h11)
     exact hce.2.2.2.2.2.2.2.2.2.2.2.2.1)
    have hS_:=K0.out _ _ _ _ N3.out hid2
    have e0_:=hS_
    clear hS_
    have PD:=AS (pending_any (w:=w3) (by obtain⟨K1,-,h,-⟩:=N3.out;exact h.1.2.2.2.2.1))
    generalize hbz:n2.cpu.busy=bz at *
    generalize n2.cpu.op=po at *
    obtain⟨pb0,pb1,pb2⟩:=po
    simp only[opV] at PD
    go_wp2_with fail
    refine PD.out.mono ?_
    rintro e w4 ⟨rfl,hb4⟩
    have N4:=AS ((N3.out.below hb4).below (below_alloc (Below.refl _ _) (.cells #[.int .i64 pb0,.bool pb1,.int .i64 pb2] 50)))
    clear hb4 PD K0 e0_ N3
    cases bz
    case false =>
     have hr:=HR.out
     simp only[Bool.false_eq_true,if_false] at hr
     go_upto_region 8 with fail
     generalize w4.alloc (.cells #[.int .i64 pb0,.bool pb1,.int .i64 pb2] 50)=w5 at N4 ⊢
     obtain⟨A1,n1,c1,A2,n2,c2,hq_⟩:=N4.out.outs
     have HQ:=AS hq_
     have HQ2:=AS (show w5.heap[g+3]?=some (.cells #[.slice A1 n1 c1,.slice A2 n2 c2] 138 (0,0)) from by rw[<- hpq];exact hq_)
     have q0_:=cw HQ2.out 0 (v:=.slice A1 n1 c1)
     have q1_:=cw HQ2.out 1 (v:=.slice A2 n2 c2)
     have RB:=AS (N4.out.at_ (g:=g+2) (ob:=.cells #[.slice none 0 0,.slice none 0 0] 138) (by simp))
     have r0_:=cw RB.out 0 (v:=.slice none 0 0)
     have r1_:=cw RB.out 1 (v:=.slice none 0 0)
     have rz0_:=blk_frozen RB.out 0
     have rz1_:=blk_frozen RB.out 1
     clear hq_
     go_wp2
     refine bodyPost_ret (v:=.tuple #[.agg #[.slice A1 n1 c1,.slice A2 n2 c2],.bool true]) (by simp[results,Tryz.results54,go_sem,r0_,r1_]) rfl ?_
     (try rw[hr])
     exact NX.fin (v:=fun a b=>.tuple #[.agg #[a,b],.bool true]) (r:=g+2) (ob:=.cells #[.slice none 0 0,.slice none 0 0] 138) N4.out (by simp) (fun x hx=>H6.out x (by rw[<- hg];exact hx)) HQ.out (by repeat (with_reducible first | exact KS.refl _ _ | apply KS.drew | apply KS.set1))
    case true =>
     have hr:=HR.out
     simp only[if_true] at hr
     go_upto_region 7 with fail
     generalize w4.alloc (.cells #[.int .i64 pb0,.bool pb1,.int .i64 pb2] 50)=w5 at N4 ⊢
     have KEEP:=AS (show ∀ (n':S.Node) (o':S.Out) (bx:List (Nat×Obj)) x,NX c n' o' p K w bx x->n'.id=n.id->(g,(.cells #[.int .i64 ob,.bool ow,.int .i64 ov] 50:Obj))∈bx->(g+1,(.cells #[.int .i64 d0,.int .i64 d1,.int .i64 d2] 74:Obj))∈bx->(x.cell? ⟨g,0,none⟩=some (.int .i64 ob)/\x.cell? ⟨g,1,none⟩=some (.bool ow)/\x.cell? ⟨g,2,none⟩=some (.int .i64 ov)/\x.cell? ⟨g+1,0,none⟩=some (.int .i64 d0)/\x.cell? ⟨g+1,1,none⟩=some (.int .i64 d1)/\x.cell? ⟨g+1,2,none⟩=some (.int .i64 d2)) from fun n' o' bx x hx hid m0 m1=>by
      have hb0:=hx.at_ m0
      have hb1:=hx.at_ m1
      exact⟨cw hb0 0,cw hb0 1,cw hb0 2,cw hb1 0,cw hb1 1,cw hb1 2⟩)
     have hS_:=KEEP.out _ _ _ _ N4.out hid2 (by simp) (by simp)
     have e0_:=hS_.1
     have e1_:=hS_.2.1
     have e2_:=hS_.2.2.1
     have e3_:=hS_.2.2.2.1
     have e4_:=hS_.2.2.2.2.1
     have e5_:=hS_.2.2.2.2.2
     clear hS_
     have AS_:=AS (N4.out.call (fun K1 h=>nodeAsk_any h ⟨ob,ow,ov⟩ ⟨d0,d1,d2⟩ (by have:=targets_len c n2.id ⟨d0,d1,d2⟩;have:=HS2.out.1;omega)))
     rw[hpb,hpq] at AS_
     simp only[opV,drwV] at AS_
     go_wp2_with fail
     refine AS_.out.mono ?_
     rintro e w6 ⟨rfl,h6⟩
     have N6:=AS h6
     clear h6 AS_ KEEP N4 e0_ e1_ e2_ e3_ e4_ e5_
     obtain⟨A1,n1,c1,A2,n2,c2,hq_⟩:=N6.out.outs
     have HQ:=AS hq_
     have HQ2:=AS (show w6.heap[g+3]?=some (.cells #[.slice A1 n1 c1,.slice A2 n2 c2] 138 (0,0)) from by rw[<- hpq];exact hq_)
     have q0_:=cw HQ2.out 0 (v:=.slice A1 n1 c1)
     have q1_:=cw HQ2.out 1 (v:=.slice A2 n2 c2)
     have RB:=AS (N6.out.at_ (g:=g+2) (ob:=.cells #[.slice none 0 0,.slice none 0 0] 138) (by simp))
     have r0_:=cw RB.out 0 (v:=.slice none 0 0)
     have r1_:=cw RB.out 1 (v:=.slice none 0 0)
     have rz0_:=blk_frozen RB.out 0
     have rz1_:=blk_frozen RB.out 1
     clear hq_
     go_wp2
     refine bodyPost_ret (v:=.tuple #[.agg #[.slice A1 n1 c1,.slice A2 n2 c2],.bool true]) (by simp[results,Tryz.results54,go_sem,r0_,r1_]) rfl ?_
     (try rw[hr])
     exact NX.fin (v:=fun a b=>.tuple #[.agg #[a,b],.bool true]) (r:=g+2) (ob:=.cells #[.slice none 0 0,.slice none 0 0] 138) N6.out (by simp) (fun x hx=>H6.out x (by rw[<- hg];exact hx)) HQ.out (by repeat (with_reducible first | exact KS.refl _ _ | apply KS.drew | apply KS.set1))
theorem nodeIssue_any {c:Cfg} {n:S.Node} {p:NPtr} {K:Nat->Nat} {w:Go.World} (hN:NodeK c n p K w) (h6:∀ x,x < w.heap.size->K x≠6) (op:S.Op) (d:Drw):Calls Tryz.prog 54 #[.pointer (some ⟨p.b,0,none⟩),opV op,drwV d] w (NRes (fun a b=>.tuple #[.agg #[a,b],.bool (n.issue c op d).2.2]) c (n.issue c op d).1 (n.issue c op d).2.1 p K w) :=
 nodeIssue_aux (p:={ p with q:=w.heap.size+3 }) hN rfl h6 op d
end Go.Proofs.YtiebppkhaiofeaaGreat.K
