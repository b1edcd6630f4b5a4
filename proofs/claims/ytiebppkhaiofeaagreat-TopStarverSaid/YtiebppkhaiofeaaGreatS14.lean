/- Part of the proof of TopStarver: what functions of the program do. -/
import Derived.Test.YtiebppkhaiofeaaGreatS13
set_option maxHeartbeats 4000000
set_option maxRecDepth 100000
set_option linter.unusedVariables false
set_option linter.unusedSimpArgs false
namespace Go.Proofs.YtiebppkhaiofeaaGreat.K
open Go.RowKit Go.Proofs.YtiebppkhaiofeaaGreatW.PrintWords Go.Proofs.YtiebppkhaiofeaaGreat.S
attribute [local go_sem] World.cell?_alloc_some
open Go.ChangeMaps Go.MapKept
def NRes (v:Value->Value->Value) (c:Cfg) (n:S.Node) (o:S.Out) (p:NPtr) (K:Nat->Nat) (w:Go.World) (e:Ending) (w':Go.World):Prop :=
 ∃ vl vd K',e=.returned (v vl vd)/\(∀ x,x < w.heap.size->K' x=K x)/\NodeK c n p K' w'/\OwnE letE vl o.letters w'/\OwnE doneE vd o.done w'/\(∀ x∈foot vl,w.heap.size≤x/\K' x=6)/\(∀ x∈foot vd,w.heap.size≤x/\K' x=6)/\KS (fun x=>K x≤5) w w'
theorem NodeK.start {c:Cfg} {n:S.Node} {p:NPtr} {K:Nat->Nat} {w W:Go.World} (h:NodeK c n p K w) (hb:Below w.heap.size w W) {q:Nat} (hq:w.heap.size≤q) (ho:W.heap[q]?=some (.cells #[.slice none 0 0,.slice none 0 0] 138 (0,0))) (bx:List (Nat×Obj)) (hbx:∀ x∈bx,w.heap.size≤x.1/\x.1≠q/\W.heap[x.1]?=some x.2) (hd:(bx.map (·.1)).Nodup):NX c n out0 { p with q:=q } K w bx W:=by
 have hs:=hb.size
 refine⟨fun x=>if x=q then 6 else if x < w.heap.size then K x else 7,fun x hx=>?_,⟨?_,?_⟩,KS.below _ hb,fun x hx=>⟨?_,(hbx x hx).1,(hbx x hx).2.2⟩,hd⟩
 ·show(if x=q then 6 else if x < w.heap.size then K x else 7)=K x
  rw[if_neg (by omega),if_pos hx]
 ·exact NodeK.keep (G:=fun _=>False) (show NodeK c n { p with q:=q } K w from h) (KS.below _ hb) (fun x hx _=>⟨by rw[if_neg (by omega),if_pos hx],id⟩)
 ·exact⟨_,_,ho,OwnE.nil _,OwnE.nil _,by simp[foot_nil],by simp[foot_nil],by simp[foot_nil],if_pos rfl,by simp[foot_nil],by simp[foot_nil]⟩
 ·show(if x.1=q then 6 else if x.1 < w.heap.size then K x.1 else 7)=7
  rw[if_neg (hbx x hx).2.1,if_neg (by have:=(hbx x hx).1;omega)]
section
variable {c:Cfg} {n:S.Node} {o:S.Out} {p:NPtr} {K:Nat->Nat} {w w1 w2:Go.World} {bx:List (Nat×Obj)}
theorem NX.pick (h:NX c n o p K w bx w1) {g:Nat} {ob:Obj} (hm:(g,ob)∈bx):NX c n o p K w [(g,ob)] w1:=by
 obtain⟨K1,ha,hN,hk,hB,hD⟩:=h
 exact⟨K1,ha,hN,hk,fun q hq=>by simp only[List.mem_singleton] at hq;subst hq;exact hB _ hm,by simp⟩
theorem NX.outs (h:NX c n o p K w bx w1):∃ A1 n1 c1 A2 n2 c2,w1.heap[p.q]?=some (.cells #[.slice A1 n1 c1,.slice A2 n2 c2] 138 (0,0)):=by
 obtain⟨K1,ha,hN,hk,hB,hD⟩:=h
 obtain⟨vl,vd,h1,h2,h3,-⟩:=hN.2
 obtain⟨A1,c1,rfl,-⟩:=h2.row
 obtain⟨A2,c2,rfl,-⟩:=h3.row
 exact⟨_,_,_,_,_,_,h1⟩
theorem NX.fin {vl vd:Value} {v:Value->Value->Value} {r:Nat} {ob:Obj} (h:NX c n o p K w bx w1) (hm:(r,ob)∈bx) (h6:∀ x,x < w.heap.size->K x≠6) (hq:w1.heap[p.q]?=some (.cells #[vl,vd] 138 (0,0))) (hk2:KS (fun x=>x=r) w1 w2):NRes v c n o p K w (.returned (v vl vd)) w2:=by
 have h2:=(h.pick hm).pass hk2
 have hrq:p.q≠r:=by
  obtain⟨K1,ha,hN,hk,hB,hD⟩:=h
  have h7:=(hB _ hm).1
  obtain⟨-,-,-,-,-,-,-,-,h6',-⟩:=hN.2
  intro e
  rw[e] at h6'
  simp only at h7
  omega
 have hq2:=hk2.at_ hq hrq
 obtain⟨K1,ha,hN,hk,-⟩:=h2
 obtain⟨vl',vd',g1,g2,g3,g4,g5,g6,g7,g8,g9⟩:=hN.2
 rw[hq2] at g1
 have g1':vl=vl'/\vd=vd':=by simpa using g1
 obtain⟨rfl,rfl⟩:=g1'
 have hnew:∀ x,K1 x=6->w.heap.size≤x:=fun x hx=>by
  by_cases q:x < w.heap.size
  ·exact absurd ((ha x q).symm.trans hx) (h6 x q)
  ·omega
 exact⟨_,_,K1,rfl,ha,hN.1,g2,g3,fun x hx=>⟨hnew x (g8 x hx),g8 x hx⟩,fun x hx=>⟨hnew x (g9 x hx),g9 x hx⟩,hk.mono (fun x hx h=>by have:=h6 x hx;omega)⟩
end
theorem targets_len (c:Cfg) (s:Int) (d:Drw):(targets c s d).length≤65:=by
 unfold targets
 split
 ·exact Nat.zero_le _
 ·refine Nat.le_trans (List.length_filter_le _ _) ?_
  rw[List.length_map,List.length_range];omega
theorem nodeTick_aux {c:Cfg} {n:S.Node} {p:NPtr} {K:Nat->Nat} {w:Go.World} (hN:NodeK c n p K w) (hpq:p.q=w.heap.size+2) (h6:∀ x,x < w.heap.size->K x≠6) (hw0:0≤c.wait) (hw1:c.wait≤64) (d:Drw):Calls Tryz.prog 64 #[.pointer (some ⟨p.b,0,none⟩),drwV d] w (NRes (fun a b=>.agg #[a,b]) c (n.tick c d).1 (n.tick c d).2 p K w):=by
 obtain⟨d0,d1,d2⟩:=d
 have H6:=AS h6
 have HW:=AS (And.intro hw0 hw1)
 have e1:(w.alloc (.cells #[.int .i64 d0,.int .i64 d1,.int .i64 d2] 74)).heap.size=w.heap.size+1:=by simp
 have e2:((w.alloc (.cells #[.int .i64 d0,.int .i64 d1,.int .i64 d2] 74)).alloc (.cells #[.slice none 0 0,.slice none 0 0] 138)).heap.size=w.heap.size+2:=by simp
 have N1:=AS (hN.start (W:=(((w.alloc (.cells #[.int .i64 d0,.int .i64 d1,.int .i64 d2] 74)).alloc (.cells #[.slice none 0 0,.slice none 0 0] 138)).alloc (.cells #[.slice none 0 0,.slice none 0 0] 138))) (q:=w.heap.size+2) (below_alloc (below_alloc (below_alloc (Below.refl _ _) _) _) _) (by omega) (by rw[<- e2];exact blk_new _ _) [(w.heap.size+1,(.cells #[.slice none 0 0,.slice none 0 0] 138:Obj)),(w.heap.size,(.cells #[.int .i64 d0,.int .i64 d1,.int .i64 d2] 74:Obj))] (by
  intro x hx
  simp only[List.mem_cons,List.not_mem_nil,or_false] at hx
  rcases hx with rfl | rfl
  ·exact⟨by simp,by simp,blk_alloc (by rw[<- e1];exact blk_new _ _) _⟩
  ·exact⟨by simp,by simp,blk_alloc (blk_alloc (blk_new _ _) _) _⟩) (by simp))
 rw[show({ p with q:=w.heap.size+2 }:NPtr)=p from by rw[<- hpq]] at N1
 have HR:=AS (show n.tick c ⟨d0,d1,d2⟩=if (n.cpu.tick c).2=1 then ({ n with cpu:=(n.cpu.tick c).1 },({ n with cpu:=(n.cpu.tick c).1 }:S.Node).ask c n.cpu.op ⟨d0,d1,d2⟩ out0) else if (n.cpu.tick c).2=2 then (if n.asked n.cpu.op.block then ({ n with cpu:=(n.cpu.tick c).1 },out0) else ({ n with cpu:=(n.cpu.tick c).1,asked:=upd n.asked n.cpu.op.block true },out0.send (n.home c 3 n.cpu.op.block 0))) else ({ n with cpu:=(n.cpu.tick c).1 },out0) from rfl)
 have PD':=AS (pending_any (w:=(((w.alloc (.cells #[.int .i64 d0,.int .i64 d1,.int .i64 d2] 74)).alloc (.cells #[.slice none 0 0,.slice none 0 0] 138)).alloc (.cells #[.slice none 0 0,.slice none 0 0] 138))) (by obtain⟨K1,-,h,-⟩:=N1.out;exact h.1.2.2.2.2.1))
 show Calls Tryz.prog 64 #[.pointer (some ⟨p.b,0,none⟩),.agg #[.int .i64 d0,.int .i64 d1,.int .i64 d2]] w (NRes (fun a b=>.agg #[a,b]) c (n.tick c ⟨d0,d1,d2⟩).1 (n.tick c ⟨d0,d1,d2⟩).2 p K w)
 generalize n.tick c ⟨d0,d1,d2⟩=R at *
 clear hN h6 hw0 hw1 e1 e2
 have CE:=AS (show ∀ (n':S.Node) (W':Go.World),n'.id=n.id->W'.heap[p.b]?=some (.cells (nodeC c n' p) 133 (0,0))->(W'.cell? ⟨p.b,0,none⟩=some (.int .i64 c.nodes)/\W'.cell? ⟨p.b,1,none⟩=some (.int .i64 c.blocks)/\W'.cell? ⟨p.b,2,none⟩=some (.int .i64 c.tokens)/\W'.cell? ⟨p.b,3,none⟩=some (.int .i64 c.sets)/\W'.cell? ⟨p.b,4,none⟩=some (.int .i64 c.ways)/\W'.cell? ⟨p.b,5,none⟩=some (.int .i64 c.cap)/\W'.cell? ⟨p.b,6,none⟩=some (.int .i64 c.wait)/\W'.cell? ⟨p.b,7,none⟩=some (.int .i64 c.tries)/\W'.cell? ⟨p.b,8,none⟩=some (.int .i64 c.policy)/\W'.cell? ⟨p.b,9,none⟩=some (.int .i64 n.id)/\W'.cell? ⟨p.b,10,none⟩=some (.pointer (some ⟨p.bc,0,none⟩))/\W'.cell? ⟨p.b,11,none⟩=some (.pointer (some ⟨p.bt,0,none⟩))/\W'.cell? ⟨p.b,12,none⟩=some (.pointer (some ⟨p.bp,0,none⟩))/\W'.cell? ⟨p.b,13,none⟩=some (.map (some p.ba))/\W'.cell? ⟨p.b,14,none⟩=some (.map (some p.bo))) from fun n' W' hi h=>⟨cw h 0,cw h 1,cw h 2,cw h 3,cw h 4,cw h 5,cw h 6,cw h 7,cw h 8,by rw[<- hi];exact(cw h 9),cw h 10,cw h 11,cw h 12,cw h 13,cw h 14⟩)
 generalize hpb:p.b=pb at *
 go_enter Tryz.func64,Tryz.ntmps64
 go_upto_region 2 with fail
 generalize (((w.alloc (.cells #[.int .i64 d0,.int .i64 d1,.int .i64 d2] 74)).alloc (.cells #[.slice none 0 0,.slice none 0 0] 138)).alloc (.cells #[.slice none 0 0,.slice none 0 0] 138))=W at N1 PD' ⊢
 generalize hg:w.heap.size=g at *
 generalize hop:n.cpu.op=op at *
 obtain⟨ob,ow,ov⟩:=op
 simp only[opV] at PD' HR
 have K0:=AS (show ∀ (n':S.Node) (o':S.Out) (bx:List (Nat×Obj)) x,NX c n' o' p K w bx x->n'.id=n.id->(x.cell? ⟨pb,12,none⟩=some (.pointer (some ⟨p.bp,0,none⟩))) from fun n' o' bx x hx hid=>by
  have hce:=(show _ from by have h11:=hx.node;rw[hpb] at h11;exact CE.out n' _ hid h11)
  exact hce.2.2.2.2.2.2.2.2.2.2.2.2.1)
 have hS_:=K0.out _ _ _ _ N1.out rfl
 have e0_:=hS_
 clear hS_
 go_wp2_with fail
 refine PD'.out.mono ?_
 rintro e w2 ⟨rfl,hb2⟩
 have N2:=AS ((N1.out.below hb2).box (.cells #[.int .i64 ob,.bool ow,.int .i64 ov] 50))
 clear hb2 PD' e0_ N1
 go_upto_region 3 with fail
 generalize hga:w2.heap.size=a at N2 ⊢
 generalize w2.alloc (.cells #[.int .i64 ob,.bool ow,.int .i64 ov] 50)=W3 at N2 ⊢
 have hS_:=K0.out _ _ _ _ N2.out rfl
 have e0_:=hS_
 clear hS_
 have TK:=AS (N2.out.call (fun K1 h=>h.ptick HW.out.1 HW.out.2))
 have hcp:n.cpu.tick c=((n.cpu.tick c).1,(n.cpu.tick c).2):=rfl
 generalize n.cpu.tick c=tk at *
 obtain⟨tp,tn⟩:=tk
 simp only at TK HR
 clear hcp
 go_wp2_with fail
 refine TK.out.mono ?_
 rintro e w4 ⟨rfl,h4⟩
 have N4:=AS h4
 clear h4 TK N2 e0_
 by_cases h1:tn=1
 case pos =>
  have hr:=HR.out.trans (if_pos h1)
  subst h1
  clear HR
  have KEEP:=AS (show ∀ (n':S.Node) (o':S.Out) (bx:List (Nat×Obj)) x,NX c n' o' p K w bx x->n'.id=n.id->(a,(.cells #[.int .i64 ob,.bool ow,.int .i64 ov] 50:Obj))∈bx->(g,(.cells #[.int .i64 d0,.int .i64 d1,.int .i64 d2] 74:Obj))∈bx->(x.cell? ⟨a,0,none⟩=some (.int .i64 ob)/\x.cell? ⟨a,1,none⟩=some (.bool ow)/\x.cell? ⟨a,2,none⟩=some (.int .i64 ov)/\x.cell? ⟨g,0,none⟩=some (.int .i64 d0)/\x.cell? ⟨g,1,none⟩=some (.int .i64 d1)/\x.cell? ⟨g,2,none⟩=some (.int .i64 d2)) from fun n' o' bx x hx hid m0 m1=>by
   have hb0:=hx.at_ m0
   have hb1:=hx.at_ m1
   exact⟨cw hb0 0,cw hb0 1,cw hb0 2,cw hb1 0,cw hb1 1,cw hb1 2⟩)
  have hS_:=KEEP.out _ _ _ _ N4.out rfl (by simp) (by simp)
  have e0_:=hS_.1
  have e1_:=hS_.2.1
  have e2_:=hS_.2.2.1
  have e3_:=hS_.2.2.2.1
  have e4_:=hS_.2.2.2.2.1
  have e5_:=hS_.2.2.2.2.2
  clear hS_
  have AS_:=AS (N4.out.call (fun K1 h=>nodeAsk_any h ⟨ob,ow,ov⟩ ⟨d0,d1,d2⟩ (by have:=targets_len c n.id ⟨d0,d1,d2⟩;show 0+(targets c n.id ⟨d0,d1,d2⟩).length≤_;omega)))
  rw[hpb,hpq] at AS_
  simp only[opV,drwV] at AS_
  go_wp2_with fail
  refine AS_.out.mono ?_
  rintro e w5 ⟨rfl,h5⟩
  have N5:=AS h5
  clear h5 AS_ KEEP N4 e0_ e1_ e2_ e3_ e4_ e5_
  obtain⟨A1,n1,c1,A2,n2,c2,hq_⟩:=N5.out.outs
  have HQ:=AS hq_
  have HQ2:=AS (show w5.heap[g+2]?=some (.cells #[.slice A1 n1 c1,.slice A2 n2 c2] 138 (0,0)) from by rw[<- hpq];exact hq_)
  have q0_:=cw HQ2.out 0 (v:=.slice A1 n1 c1)
  have q1_:=cw HQ2.out 1 (v:=.slice A2 n2 c2)
  have RB:=AS (N5.out.at_ (g:=g+1) (ob:=.cells #[.slice none 0 0,.slice none 0 0] 138) (by simp))
  have r0_:=cw RB.out 0 (v:=.slice none 0 0)
  have r1_:=cw RB.out 1 (v:=.slice none 0 0)
  have rz0_:=blk_frozen RB.out 0
  have rz1_:=blk_frozen RB.out 1
  clear hq_
  go_wp2
  refine bodyPost_ret (v:=.agg #[.slice A1 n1 c1,.slice A2 n2 c2]) (by simp[results,Tryz.results64,go_sem,r0_,r1_]) rfl ?_
  (try rw[hr])
  exact NX.fin (v:=fun a b=>.agg #[a,b]) (r:=g+1) (ob:=.cells #[.slice none 0 0,.slice none 0 0] 138) N5.out (by simp) (fun x hx=>H6.out x (by rw[<- hg];exact hx)) HQ.out (by repeat (with_reducible first | exact KS.refl _ _ | apply KS.drew | apply KS.set1))
 case neg =>
  have hr1:=HR.out.trans (if_neg h1)
  have hd1:(decide (tn=1))=false:=by simp[h1]
  have hd1':(tn == 1)=false:=by simp[h1]
  by_cases h2:tn=2
  case pos =>
   have hr:=hr1.trans (if_pos h2)
   subst h2
   clear HR hr1
   have HR:=AS hr
   clear hr
   have KEEP:=AS (show ∀ (n':S.Node) (o':S.Out) (bx:List (Nat×Obj)) x,NX c n' o' p K w bx x->n'.id=n.id->(a,(.cells #[.int .i64 ob,.bool ow,.int .i64 ov] 50:Obj))∈bx->(x.cell? ⟨pb,13,none⟩=some (.map (some p.ba))/\x.cell? ⟨a,0,none⟩=some (.int .i64 ob)) from fun n' o' bx x hx hid m0=>by
    have hce:=(show _ from by have h11:=hx.node;rw[hpb] at h11;exact CE.out n' _ hid h11)
    have hb0:=hx.at_ m0
    exact⟨hce.2.2.2.2.2.2.2.2.2.2.2.2.2.1,cw hb0 0⟩)
   have hS_:=KEEP.out _ _ _ _ N4.out rfl (by simp)
   have e0_:=hS_.1
   have e1_:=hS_.2
   clear hS_
   have LK:=AS (show ∀ W',Below w4.heap.size w4 W'->(Instr.lookup 131 (.map (some p.ba)) (.int .i64 ob) false).run Tryz.prog W'=.ok (.bool (n.asked ob)) W' from fun W' hb=>(N4.out.below hb).have_ fun K1 h=>h.1.2.2.2.2.2.2.1.look ob)
   have lk:=LK.out w4.drew (Below.drew (Below.refl _ _))
   generalize has:n.asked ob=as_ at *
   go_upto_region 7 with fail
   go_cut [36] (fun v36 wx=>v36=.bool (!as_)/\NX c { n with cpu:=tp } out0 p K w [(a,(.cells #[.int .i64 ob,.bool ow,.int .i64 ov] 50:Obj)),(g+1,(.cells #[.slice none 0 0,.slice none 0 0] 138:Obj)),(g,(.cells #[.int .i64 d0,.int .i64 d1,.int .i64 d2] 74:Obj))] wx)
   case first =>
    go_region
    all_goals
     go_wp2_with fail
     go_meet
     exact⟨rfl,N4.out.drew⟩
   case rest =>
    obtain⟨rfl,hcut⟩:=hcut
    have N5:=AS hcut
    clear hcut lk LK N4 e0_ e1_
    cases as_
    case true =>
     have hr:=HR.out.trans (if_pos rfl)
     obtain⟨A1,n1,c1,A2,n2,c2,hq_⟩:=N5.out.outs
     have HQ:=AS hq_
     have HQ2:=AS (show wc.heap[g+2]?=some (.cells #[.slice A1 n1 c1,.slice A2 n2 c2] 138 (0,0)) from by rw[<- hpq];exact hq_)
     have q0_:=cw HQ2.out 0 (v:=.slice A1 n1 c1)
     have q1_:=cw HQ2.out 1 (v:=.slice A2 n2 c2)
     have RB:=AS (N5.out.at_ (g:=g+1) (ob:=.cells #[.slice none 0 0,.slice none 0 0] 138) (by simp))
     have r0_:=cw RB.out 0 (v:=.slice none 0 0)
     have r1_:=cw RB.out 1 (v:=.slice none 0 0)
     have rz0_:=blk_frozen RB.out 0
     have rz1_:=blk_frozen RB.out 1
     clear hq_
     go_wp2
     refine bodyPost_ret (v:=.agg #[.slice A1 n1 c1,.slice A2 n2 c2]) (by simp[results,Tryz.results64,go_sem,r0_,r1_]) rfl ?_
     (try rw[hr])
     exact NX.fin (v:=fun a b=>.agg #[a,b]) (r:=g+1) (ob:=.cells #[.slice none 0 0,.slice none 0 0] 138) N5.out (by simp) (fun x hx=>H6.out x (by rw[<- hg];exact hx)) HQ.out (by repeat (with_reducible first | exact KS.refl _ _ | apply KS.drew | apply KS.set1))
    case false =>
     have hr:=HR.out.trans (if_neg (by simp))
     obtain⟨es,ck,hrun,hm7⟩:=(N5.out.drew).have_ fun K1 h=>h.1.2.2.2.2.2.2.1.put ob true
     simp only at hrun hm7
     have N7:=AS (N5.out.drew.via (fun K1 h=>h.maps_asked hm7))
     clear hm7
     have hS_:=KEEP.out _ _ _ _ N5.out rfl (by simp)
     have e0_:=hS_.1
     have e1_:=hS_.2
     clear hS_
     go_upto_region 8 with fail
     go_cut [] (fun wx=>wx=setBlock wc.drew p.ba (.map es ck))
     case first =>
      go_region
      all_goals
       go_wp2_with fail
       go_meet
       exact rfl
     case rest =>
      rw[<- hcut] at N7
      clear hcut hrun N5 e0_ e1_
      have hS_:=KEEP.out _ _ _ _ N7.out rfl (by simp)
      have e0_:=hS_.1
      have e1_:=hS_.2
      clear hS_
      have HM:=AS (N7.out.have_ fun K1 h=>nodeHome_any h.1 3 ob 0)
      rw[hpb] at HM
      go_wp2_with fail
      refine HM.out.mono ?_
      rintro e w8 ⟨rfl,hb8⟩
      have N8:=AS (N7.out.below hb8)
      clear hb8 HM N7
      have SD:=AS (N8.out.call (fun K1 h=>h.send (by show 0≤_;omega) (n.home c 3 ob 0)))
      rw[hpq] at SD
      simp only[Node.home] at SD
      simp only[letV,Node.home,b0]
      go_wp2_with fail
      refine SD.out.mono ?_
      rintro e w9 ⟨rfl,h9⟩
      have N9:=AS h9
      clear h9 SD N8
      obtain⟨A1,n1,c1,A2,n2,c2,hq_⟩:=N9.out.outs
      have HQ:=AS hq_
      have HQ2:=AS (show w9.heap[g+2]?=some (.cells #[.slice A1 n1 c1,.slice A2 n2 c2] 138 (0,0)) from by rw[<- hpq];exact hq_)
      have q0_:=cw HQ2.out 0 (v:=.slice A1 n1 c1)
      have q1_:=cw HQ2.out 1 (v:=.slice A2 n2 c2)
      have RB:=AS (N9.out.at_ (g:=g+1) (ob:=.cells #[.slice none 0 0,.slice none 0 0] 138) (by simp))
      have r0_:=cw RB.out 0 (v:=.slice none 0 0)
      have r1_:=cw RB.out 1 (v:=.slice none 0 0)
      have rz0_:=blk_frozen RB.out 0
      have rz1_:=blk_frozen RB.out 1
      clear hq_
      go_wp2
      refine bodyPost_ret (v:=.agg #[.slice A1 n1 c1,.slice A2 n2 c2]) (by simp[results,Tryz.results64,go_sem,r0_,r1_]) rfl ?_
      (try rw[hr])
      exact NX.fin (v:=fun a b=>.agg #[a,b]) (r:=g+1) (ob:=.cells #[.slice none 0 0,.slice none 0 0] 138) N9.out (by simp) (fun x hx=>H6.out x (by rw[<- hg];exact hx)) HQ.out (by repeat (with_reducible first | exact KS.refl _ _ | apply KS.drew | apply KS.set1))
  case neg =>
   have hr:=hr1.trans (if_neg h2)
   have hd2:(decide (tn=2))=false:=by simp[h2]
   have hd2':(tn == 2)=false:=by simp[h2]
   obtain⟨A1,n1,c1,A2,n2,c2,hq_⟩:=N4.out.outs
   have HQ:=AS hq_
   have HQ2:=AS (show w4.heap[g+2]?=some (.cells #[.slice A1 n1 c1,.slice A2 n2 c2] 138 (0,0)) from by rw[<- hpq];exact hq_)
   have q0_:=cw HQ2.out 0 (v:=.slice A1 n1 c1)
   have q1_:=cw HQ2.out 1 (v:=.slice A2 n2 c2)
   have RB:=AS (N4.out.at_ (g:=g+1) (ob:=.cells #[.slice none 0 0,.slice none 0 0] 138) (by simp))
   have r0_:=cw RB.out 0 (v:=.slice none 0 0)
   have r1_:=cw RB.out 1 (v:=.slice none 0 0)
   have rz0_:=blk_frozen RB.out 0
   have rz1_:=blk_frozen RB.out 1
   clear hq_
   go_wp2
   refine bodyPost_ret (v:=.agg #[.slice A1 n1 c1,.slice A2 n2 c2]) (by simp[results,Tryz.results64,go_sem,r0_,r1_]) rfl ?_
   (try rw[hr])
   exact NX.fin (v:=fun a b=>.agg #[a,b]) (r:=g+1) (ob:=.cells #[.slice none 0 0,.slice none 0 0] 138) N4.out (by simp) (fun x hx=>H6.out x (by rw[<- hg];exact hx)) HQ.out (by repeat (with_reducible first | exact KS.refl _ _ | apply KS.drew | apply KS.set1))
theorem nodeTick_any {c:Cfg} {n:S.Node} {p:NPtr} {K:Nat->Nat} {w:Go.World} (hN:NodeK c n p K w) (h6:∀ x,x < w.heap.size->K x≠6) (hw0:0≤c.wait) (hw1:c.wait≤64) (d:Drw):Calls Tryz.prog 64 #[.pointer (some ⟨p.b,0,none⟩),drwV d] w (NRes (fun a b=>.agg #[a,b]) c (n.tick c d).1 (n.tick c d).2 p K w) :=
 nodeTick_aux (p:={ p with q:=w.heap.size+2 }) hN rfl h6 hw0 hw1 d
end Go.Proofs.YtiebppkhaiofeaaGreat.K
namespace Go.Proofs.YtiebppkhaiofeaaGreat.K
open Go.RowKit Go.Proofs.YtiebppkhaiofeaaGreatW.PrintWords Go.Proofs.YtiebppkhaiofeaaGreat.S
open Go.ChangeMaps Go.MapKept
def NodeAt (c:Cfg) (n:S.Node) (b:Nat) (F:Set_) (w:Go.World):Prop:=∃ (p:NPtr) (K:Nat->Nat),p.b=b/\NodeK c n p K w/\∀ x,x < w.heap.size->K x≤5->F x
theorem NodeAt.lt {c:Cfg} {n:S.Node} {b:Nat} {F:Set_} {w:Go.World} (h:NodeAt c n b F w):b < w.heap.size:=by obtain⟨p,K,rfl,hK,-⟩:=h;exact hK.lt
theorem NodeAt.mem {c:Cfg} {n:S.Node} {b:Nat} {F:Set_} {w:Go.World} (h:NodeAt c n b F w):F b:=by obtain⟨p,K,rfl,hK,hF⟩:=h;exact hF _ hK.lt (by rw[hK.2.1];omega)
theorem NodeAt.keep {c:Cfg} {n:S.Node} {b:Nat} {F F' G:Set_} {w w':Go.World} (h:NodeAt c n b F w) (hk:KS G w w') (hs:∀ x,x < w.heap.size->F x->F' x/\¬ G x):NodeAt c n b F' w':=by
 obtain⟨p,K,rfl,hK,hF⟩:=h
 have hsz:=hk.size
 refine⟨p,rec_ K w 7,rfl,hK.keep hk (fun x hx h5=>⟨rec_old hx,(hs x hx (hF x hx h5)).2⟩),fun x hx h5=>?_⟩
 by_cases hl:x < w.heap.size
 ·rw[rec_old hl] at h5;exact(hs x hl (hF x hl h5)).1
 ·rw[rec_new (by omega)] at h5;omega
open Classical in
theorem node_mk {c:Cfg} {n:S.Node} {p:NPtr} {F1 F2 G:Set_} {w:Go.World} (hB:w.heap[p.b]?=some (.cells (nodeC c n p) 133 (0,0))) (hC:CacB c n.lines p.bc p.bl p.bct F1 w) (hT:TabAt n.know p.bt F2 w) (hP:ProcAt c n.cpu p.bp w) (hA:MapB n.asked p.ba w) (hO:MapI n.told p.bo w)
  (hd:∀ x,F1 x->¬ F2 x) (k0:¬ F1 p.b/\¬ F2 p.b) (k1:¬ F1 p.bp/\¬ F2 p.bp) (k2:¬ F1 p.ba/\¬ F2 p.ba) (k3:¬ F1 p.bo/\¬ F2 p.bo) (hao:p.ba≠p.bo)
  (g0:G p.b) (g1:∀ x,F1 x->G x) (g2:∀ x,F2 x->G x) (g3:G p.bp) (g4:G p.ba) (g5:G p.bo):NodeAt c n p.b G w:=by
 have hP':w.heap[p.bp]?=some (.cells (procC c n.cpu) 183 (0,0)):=hP
 obtain⟨ea,ca,fa,ha,ha2⟩:=hA
 obtain⟨eo,co,fo,ho,ho2⟩:=hO
 have n1:p.bp≠p.b:=fun e=>by rw[e,hB] at hP';simp at hP'
 have n2:p.ba≠p.b:=fun e=>by rw[e,hB] at ha;simp at ha
 have n3:p.bo≠p.b:=fun e=>by rw[e,hB] at ho;simp at ho
 have n4:p.ba≠p.bp:=fun e=>by rw[e,hP'] at ha;simp at ha
 have n5:p.bo≠p.bp:=fun e=>by rw[e,hP'] at ho;simp at ho
 refine⟨p,fun x=>if F1 x then 1 else if F2 x then 2 else if x=p.b then 0 else if x=p.bp then 3 else if x=p.ba then 4 else if x=p.bo then 5 else 7,rfl,⟨hB,?_,hC.sub fun x _ h=>?_,hT.keep (KS.refl (fun _=>False) _) (fun x _ h=>⟨?_,id⟩),hP,?_,⟨ea,ca,fa,ha,ha2⟩,?_,⟨eo,co,fo,ho,ho2⟩,?_⟩,fun x hx h5=>?_⟩
 ·simp[k0.1,k0.2]
 ·simp[h]
 ·have:¬ F1 x:=fun q=>hd x q h
  simp[h,this]
 ·simp[k1.1,k1.2,n1]
 ·simp[k2.1,k2.2,n2,n4]
 ·simp[k3.1,k3.2,n3,n5,Ne.symm hao]
 ·by_cases q1:F1 x
  ·exact g1 x q1
  by_cases q2:F2 x
  ·exact g2 x q2
  by_cases q3:x=p.b
  ·rw[q3];exact g0
  by_cases q4:x=p.bp
  ·rw[q4];exact g3
  by_cases q5:x=p.ba
  ·rw[q5];exact g4
  by_cases q6:x=p.bo
  ·rw[q6];exact g5
  ·simp only[if_neg q1,if_neg q2,if_neg q3,if_neg q4,if_neg q5,if_neg q6] at h5
   omega
end Go.Proofs.YtiebppkhaiofeaaGreat.K
