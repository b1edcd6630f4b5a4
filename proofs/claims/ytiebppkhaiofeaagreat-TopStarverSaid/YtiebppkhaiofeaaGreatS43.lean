/- Part of the proof of TopStarver: what functions of the program do. -/
import Derived.Test.YtiebppkhaiofeaaGreatS41
set_option maxHeartbeats 4000000
set_option maxRecDepth 100000
set_option linter.unusedVariables false
set_option linter.unusedSimpArgs false
namespace Go.Proofs.YtiebppkhaiofeaaGreat.K
open Go.RowKit Go.Proofs.YtiebppkhaiofeaaGreatW.PrintWords Go.Proofs.YtiebppkhaiofeaaGreat.S
attribute [local go_sem] World.cell?_alloc_some
open Go.ChangeMaps Go.MapKept
def nextS (s:S.World) (d:Drw):Ent×Bool:=if 0 < s.way.length then (⟨2,0,d.x,d.y,d.z⟩,true) else if s.nodes.any (·.cpu.busy) then (⟨4,0,d.x,d.y,d.z⟩,true) else (ent0,false)
theorem any_no {ns:List S.Node} (h:∀ j:Nat,j < ns.length->(ns.getD j (S.Node.new j)).cpu.busy=false):ns.any (·.cpu.busy)=false:=by
 rw[List.any_eq_false]
 intro n hn
 obtain⟨j,hj,rfl⟩:=List.getElem_of_mem hn
 have:=h j hj
 rw[List.getD_eq_getElem?_getD,List.getElem?_eq_getElem hj] at this
 simpa using this
theorem any_yes {ns:List S.Node} {i:Nat} (hi:i < ns.length) (h:(ns.getD i (S.Node.new i)).cpu.busy=true):ns.any (·.cpu.busy)=true:=by
 rw[List.any_eq_true]
 exact⟨_,getD_mem _ hi,h⟩
theorem next_any {s:S.World} {Ap Ah Af:Option Addr} {cp nh ch cf:Nat} {ps:List PlaceR} {B:Nat} {w:Go.World} (hS:ShotV s Ap Ah Af ps.length cp nh ch s.way.length cf ps B w) (d0 d1 d2:Int):Calls Tryz.prog 70 #[.agg #[.int .i64 s.steps,.int .i64 s.ticks,.slice Ap ps.length cp,.slice Ah nh ch,.slice Af s.way.length cf],.agg #[.int .i64 d0,.int .i64 d1,.int .i64 d2]] w (RV (.tuple #[entV (nextS s ⟨d0,d1,d2⟩).1,.bool (nextS s ⟨d0,d1,d2⟩).2]) w):=by
 have HS:=AS hS
 have HNP:=AS hS.2.2.1
 have W4:=AS (below_alloc (below_alloc (below_alloc (below_alloc (Below.refl w.heap.size w) (.cells #[.int .i64 s.steps,.int .i64 s.ticks,.slice Ap ps.length cp,.slice Ah nh ch,.slice Af s.way.length cf] 41)) (.cells #[.int .i64 d0,.int .i64 d1,.int .i64 d2] 74)) (.cells #[.int .i64 0,.int .i64 0,.int .i64 0,.int .i64 0,.int .i64 0] 33)) (.cells #[.int .i64 2,.int .i64 0,.int .i64 d0,.int .i64 d1,.int .i64 d2] 33))
 have BQ:=AS (show((((w.alloc (.cells #[.int .i64 s.steps,.int .i64 s.ticks,.slice Ap ps.length cp,.slice Ah nh ch,.slice Af s.way.length cf] 41)).alloc (.cells #[.int .i64 d0,.int .i64 d1,.int .i64 d2] 74)).alloc (.cells #[.int .i64 0,.int .i64 0,.int .i64 0,.int .i64 0,.int .i64 0] 33)).alloc (.cells #[.int .i64 2,.int .i64 0,.int .i64 d0,.int .i64 d1,.int .i64 d2] 33)).heap[w.heap.size]?=some (.cells #[.int .i64 s.steps,.int .i64 s.ticks,.slice Ap ps.length cp,.slice Ah nh ch,.slice Af s.way.length cf] 41 (0,0)) from blk_alloc (blk_alloc (blk_alloc (blk_new w _) _) _) _)
 have BT:=AS (show((((w.alloc (.cells #[.int .i64 s.steps,.int .i64 s.ticks,.slice Ap ps.length cp,.slice Ah nh ch,.slice Af s.way.length cf] 41)).alloc (.cells #[.int .i64 d0,.int .i64 d1,.int .i64 d2] 74)).alloc (.cells #[.int .i64 0,.int .i64 0,.int .i64 0,.int .i64 0,.int .i64 0] 33)).alloc (.cells #[.int .i64 2,.int .i64 0,.int .i64 d0,.int .i64 d1,.int .i64 d2] 33)).heap[w.heap.size+1+1]?=some (.cells #[.int .i64 0,.int .i64 0,.int .i64 0,.int .i64 0,.int .i64 0] 33 (0,0)) from blk_alloc (blk_newE _ _ (by simp only[World.size_alloc])) _)
 have BU:=AS (show((((w.alloc (.cells #[.int .i64 s.steps,.int .i64 s.ticks,.slice Ap ps.length cp,.slice Ah nh ch,.slice Af s.way.length cf] 41)).alloc (.cells #[.int .i64 d0,.int .i64 d1,.int .i64 d2] 74)).alloc (.cells #[.int .i64 0,.int .i64 0,.int .i64 0,.int .i64 0,.int .i64 0] 33)).alloc (.cells #[.int .i64 2,.int .i64 0,.int .i64 d0,.int .i64 d1,.int .i64 d2] 33)).heap[w.heap.size+1+1+1]?=some (.cells #[.int .i64 2,.int .i64 0,.int .i64 d0,.int .i64 d1,.int .i64 d2] 33 (0,0)) from blk_newE _ _ (by simp only[World.size_alloc]))
 have SZ:=AS (show((((w.alloc (.cells #[.int .i64 s.steps,.int .i64 s.ticks,.slice Ap ps.length cp,.slice Ah nh ch,.slice Af s.way.length cf] 41)).alloc (.cells #[.int .i64 d0,.int .i64 d1,.int .i64 d2] 74)).alloc (.cells #[.int .i64 0,.int .i64 0,.int .i64 0,.int .i64 0,.int .i64 0] 33)).alloc (.cells #[.int .i64 2,.int .i64 0,.int .i64 d0,.int .i64 d1,.int .i64 d2] 33)).heap.size=w.heap.size+4 from by simp only[World.size_alloc])
 have NXT:=AS (show nextS s ⟨d0,d1,d2⟩=(if 0 < s.way.length then (⟨2,0,d0,d1,d2⟩,true) else if s.nodes.any (·.cpu.busy) then (⟨4,0,d0,d1,d2⟩,true) else (ent0,false)) from rfl)
 generalize hn:nextS s ⟨d0,d1,d2⟩=NX at *
 clear hn hS
 go_enter Tryz.func70,Tryz.ntmps70
 go_upto_region 2 with fail
 generalize ((((w.alloc (.cells #[.int .i64 s.steps,.int .i64 s.ticks,.slice Ap ps.length cp,.slice Ah nh ch,.slice Af s.way.length cf] 41)).alloc (.cells #[.int .i64 d0,.int .i64 d1,.int .i64 d2] 74)).alloc (.cells #[.int .i64 0,.int .i64 0,.int .i64 0,.int .i64 0,.int .i64 0] 33)).alloc (.cells #[.int .i64 2,.int .i64 0,.int .i64 d0,.int .i64 d1,.int .i64 d2] 33))=W at W4 BQ BT BU SZ ⊢
 have s0_:=cw BQ.out 0 (v:=.int .i64 s.steps)
 have s1_:=cw BQ.out 1 (v:=.int .i64 s.ticks)
 have s2_:=cw BQ.out 2 (v:=.slice Ap ps.length cp)
 have s3_:=cw BQ.out 3 (v:=.slice Ah nh ch)
 have s4_:=cw BQ.out 4 (v:=.slice Af s.way.length cf)
 by_cases hw:0 < s.way.length
 ·have NR:=AS (NXT.out.trans (if_pos hw))
  have hd:decide ((0:Int) < (s.way.length:Int))=true:=by simp;omega
  have u0_:=cw BU.out 0 (v:=.int .i64 2)
  have u1_:=cw BU.out 1 (v:=.int .i64 0)
  have u2_:=cw BU.out 2 (v:=.int .i64 d0)
  have u3_:=cw BU.out 3 (v:=.int .i64 d1)
  have u4_:=cw BU.out 4 (v:=.int .i64 d2)
  have t0_:=cw BT.out 0 (v:=.int .i64 0)
  have t1_:=cw BT.out 1 (v:=.int .i64 0)
  have t2_:=cw BT.out 2 (v:=.int .i64 0)
  have t3_:=cw BT.out 3 (v:=.int .i64 0)
  have t4_:=cw BT.out 4 (v:=.int .i64 0)
  have z0_:=blk_frozen BT.out 0
  have z1_:=blk_frozen BT.out 1
  have z2_:=blk_frozen BT.out 2
  have z3_:=blk_frozen BT.out 3
  have z4_:=blk_frozen BT.out 4
  go_wp2
  have R5:=AS (show((((((W).setCell ⟨w.heap.size+1+1,0,none⟩ (.int .i64 2)).setCell ⟨w.heap.size+1+1,1,none⟩ (.int .i64 0)).setCell ⟨w.heap.size+1+1,2,none⟩ (.int .i64 d0)).setCell ⟨w.heap.size+1+1,3,none⟩ (.int .i64 d1)).setCell ⟨w.heap.size+1+1,4,none⟩ (.int .i64 d2)).heap[w.heap.size+1+1]?=some (.cells #[.int .i64 2,.int .i64 0,.int .i64 d0,.int .i64 d1,.int .i64 d2] 33 (0,0)) from(by
   have q1:=blk_set BT.out 0 (.int .i64 2)
   have q2:=blk_set q1 1 (.int .i64 0)
   have q3:=blk_set q2 2 (.int .i64 d0)
   have q4:=blk_set q3 3 (.int .i64 d1)
   have q5:=blk_set q4 4 (.int .i64 d2)
   exact blk_as q5 (by simp)))
  have K5:=AS (show KS (fun y=>y=w.heap.size+1+1) W ((((((W).setCell ⟨w.heap.size+1+1,0,none⟩ (.int .i64 2)).setCell ⟨w.heap.size+1+1,1,none⟩ (.int .i64 0)).setCell ⟨w.heap.size+1+1,2,none⟩ (.int .i64 d0)).setCell ⟨w.heap.size+1+1,3,none⟩ (.int .i64 d1)).setCell ⟨w.heap.size+1+1,4,none⟩ (.int .i64 d2)) from(by repeat (with_reducible first | refine KS.set1 ?_ _ _ | exact KS.refl _ _)))
  generalize (((((W).setCell ⟨w.heap.size+1+1,0,none⟩ (.int .i64 2)).setCell ⟨w.heap.size+1+1,1,none⟩ (.int .i64 0)).setCell ⟨w.heap.size+1+1,2,none⟩ (.int .i64 d0)).setCell ⟨w.heap.size+1+1,3,none⟩ (.int .i64 d1)).setCell ⟨w.heap.size+1+1,4,none⟩ (.int .i64 d2)=W5 at R5 K5 ⊢
  obtain⟨g0_,g1_,g2_,g3_,g4_⟩:=(show W5.cell? ⟨w.heap.size+1+1,0,none⟩=some (.int .i64 2)/\W5.cell? ⟨w.heap.size+1+1,1,none⟩=some (.int .i64 0)/\W5.cell? ⟨w.heap.size+1+1,2,none⟩=some (.int .i64 d0)/\W5.cell? ⟨w.heap.size+1+1,3,none⟩=some (.int .i64 d1)/\W5.cell? ⟨w.heap.size+1+1,4,none⟩=some (.int .i64 d2) from⟨cw R5.out 0,cw R5.out 1,cw R5.out 2,cw R5.out 3,cw R5.out 4⟩)
  refine bodyPost_ret (v:=.tuple #[entV (⟨2,0,d0,d1,d2⟩:Ent),.bool true]) (by simp[results,Tryz.results70,go_sem,entV,g0_,g1_,g2_,g3_,g4_]) rfl ?_
  rw[NR.out]
  exact⟨rfl,W4.out.trans (K5.out.toBelow (fun y hy=>by have hy':y=w.heap.size+1+1:=hy;omega) W4.out.size)⟩
 ·have NX2:=AS (NXT.out.trans (if_neg hw))
  have hd:decide ((0:Int) < (s.way.length:Int))=false:=decide_eq_false (by omega)
  have HW0:=AS hw
  clear NXT
  go_wp2_with fail
  go_loopw [24] (fun v24 wr=>∃ i:Nat,v24=.int .i64 i/\i≤ps.length/\Aside0 ((∀ j:Nat,j < i->(s.nodes.getD j (S.Node.new j)).cpu.busy=false)/\Below W.heap.size W wr)) (fun v24 _=>ps.length+1 - (intOf v24).toNat)
  case atStart=>exact⟨0,rfl,by omega,⟨fun j hj=>absurd hj (by omega),Below.refl _ _⟩⟩
  case round =>
   obtain⟨i,rfl,hi,R⟩:=hrel
   by_cases hcc:i < ps.length
   ·have q0:(0:Int)≤(i:Int):=by omega
    have q1:(i:Int) < (ps.length:Int):=by omega
    obtain⟨gp,cpp,e,hc1,hc2,hgp,hcell⟩:=own_some HS.out.1 hcc
    have hps:(ps.length:Int)≤9223372036854775807:=by omega
    clear hc1 hc2
    injection e with e1 e2 e3
    subst e1 e3
    have hok:=HS.out.2.2.2.1.ok i hcc
    have hpg:placeE.f (ps.getD i placeE.d)=placeC (ps.getD i placeE.d):=rfl
    rw[hpg] at hcell
    generalize ps.getD i placeE.d=pl at hcell hok
    generalize hnd:s.nodes.getD i (S.Node.new i)=nd at hok
    obtain⟨b1,b2,b3,b4⟩:=hok
    obtain⟨⟨ks1,-,-,hLo⟩,-⟩:=b3
    obtain⟨⟨ks2,-,-,hAo⟩,-⟩:=b4
    obtain⟨L1,lc,hvl,-⟩:=hLo.row
    obtain⟨L2,ac,hva,-⟩:=hAo.row
    obtain⟨ln,hln⟩:∃ n,pl.lines=.slice L1 n lc:=⟨_,hvl⟩
    obtain⟨an,han⟩:∃ n,pl.acts=.slice L2 n ac:=⟨_,hva⟩
    unfold placeC at hcell
    rw[hln,han,b1,b2] at hcell
    have HND:=AS hnd
    have BR:=AS (W4.out.trans (R.out.2.mono W4.out.size))
    have p0_:wr.cell? ⟨gp,i * 6+0,none⟩=some (.slice L1 ln lc):=((bcell BR.out).1 gp _ hgp).trans ((hcell 0 (by decide)).trans rfl)
    have p1_:wr.cell? ⟨gp,i * 6+1,none⟩=some (.bool nd.cpu.busy):=((bcell BR.out).1 gp _ hgp).trans ((hcell 1 (by decide)).trans rfl)
    have p2_:wr.cell? ⟨gp,i * 6+2,none⟩=some (.int .i64 nd.cpu.op.block):=((bcell BR.out).1 gp _ hgp).trans ((hcell 2 (by decide)).trans rfl)
    have p3_:wr.cell? ⟨gp,i * 6+3,none⟩=some (.bool nd.cpu.op.write):=((bcell BR.out).1 gp _ hgp).trans ((hcell 3 (by decide)).trans rfl)
    have p4_:wr.cell? ⟨gp,i * 6+4,none⟩=some (.int .i64 nd.cpu.op.value):=((bcell BR.out).1 gp _ hgp).trans ((hcell 4 (by decide)).trans rfl)
    have p5_:wr.cell? ⟨gp,i * 6+5,none⟩=some (.slice L2 an ac):=((bcell BR.out).1 gp _ hgp).trans ((hcell 5 (by decide)).trans rfl)
    have p0':wr.cell? ⟨gp,i * 6,none⟩=some (.slice L1 ln lc):=p0_
    clear hcell hLo hAo hvl hva hln han b1 b2 hnd hgp hpg
    have U1:=AS (blk_below BU.out R.out.2)
    have T1:=AS (blk_below BT.out R.out.2)
    cases hbz:nd.cpu.busy with
    | true =>
     have NR:=AS (NX2.out.trans (if_pos (any_yes (i:=i) (by have:=HNP.out;omega) (by rw[HND.out];exact hbz))))
     rw[hbz] at p1_
     have v0_:=cw U1.out 0 (v:=.int .i64 2)
     have v1_:=cw U1.out 1 (v:=.int .i64 0)
     have v2_:=cw U1.out 2 (v:=.int .i64 d0)
     have v3_:=cw U1.out 3 (v:=.int .i64 d1)
     have v4_:=cw U1.out 4 (v:=.int .i64 d2)
     have vz_:=blk_frozen U1.out 0
     have vv0_:(wr.alloc (.cells #[.slice L1 ln lc,.bool true,.int .i64 nd.cpu.op.block,.bool nd.cpu.op.write,.int .i64 nd.cpu.op.value,.slice L2 an ac] 53)).cell? ⟨w.heap.size+1+1+1,0,none⟩=some (.int .i64 2):=cw (blk_alloc U1.out _) 0
     have vvz_:(wr.alloc (.cells #[.slice L1 ln lc,.bool true,.int .i64 nd.cpu.op.block,.bool nd.cpu.op.write,.int .i64 nd.cpu.op.value,.slice L2 an ac] 53)).frozen? ⟨w.heap.size+1+1+1,0,none⟩=false:=blk_frozen (blk_alloc U1.out _) 0
     clear hbz
     go_upto_region 9 with fail
     have hz4:=SZ.out
     have hzR:=R.out.2.size
     have U9:=AS (show((wr.alloc (.cells #[.slice L1 ln lc,.bool true,.int .i64 nd.cpu.op.block,.bool nd.cpu.op.write,.int .i64 nd.cpu.op.value,.slice L2 an ac] 53)).setCell ⟨w.heap.size+1+1+1,0,none⟩ (.int .i64 4)).heap[w.heap.size+1+1+1]?=some (.cells #[.int .i64 4,.int .i64 0,.int .i64 d0,.int .i64 d1,.int .i64 d2] 33 (0,0)) from blk_as (blk_set (blk_alloc U1.out _) 0 (.int .i64 4)) (by simp))
     have T9:=AS (show((wr.alloc (.cells #[.slice L1 ln lc,.bool true,.int .i64 nd.cpu.op.block,.bool nd.cpu.op.write,.int .i64 nd.cpu.op.value,.slice L2 an ac] 53)).setCell ⟨w.heap.size+1+1+1,0,none⟩ (.int .i64 4)).heap[w.heap.size+1+1]?=some (.cells #[.int .i64 0,.int .i64 0,.int .i64 0,.int .i64 0,.int .i64 0] 33 (0,0)) from(Below.heap_setCell _ ⟨w.heap.size+1+1+1,0,none⟩ _ _ (by show w.heap.size+1+1≠w.heap.size+1+1+1;omega)).trans (blk_alloc T1.out _))
     have B9:=AS (show Below w.heap.size w ((wr.alloc (.cells #[.slice L1 ln lc,.bool true,.int .i64 nd.cpu.op.block,.bool nd.cpu.op.write,.int .i64 nd.cpu.op.value,.slice L2 an ac] 53)).setCell ⟨w.heap.size+1+1+1,0,none⟩ (.int .i64 4)) from Below.setCell (below_alloc BR.out _) (by show w.heap.size≤w.heap.size+1+1+1;omega) _)
     generalize (wr.alloc (.cells #[.slice L1 ln lc,.bool true,.int .i64 nd.cpu.op.block,.bool nd.cpu.op.write,.int .i64 nd.cpu.op.value,.slice L2 an ac] 53)).setCell ⟨w.heap.size+1+1+1,0,none⟩ (.int .i64 4)=W9 at U9 T9 B9 ⊢
     clear p0_ p0' p1_ p2_ p3_ p4_ p5_ v0_ v1_ v2_ v3_ v4_ vz_ vv0_ vvz_
     have u0_:=cw U9.out 0 (v:=.int .i64 4)
     have u1_:=cw U9.out 1 (v:=.int .i64 0)
     have u2_:=cw U9.out 2 (v:=.int .i64 d0)
     have u3_:=cw U9.out 3 (v:=.int .i64 d1)
     have u4_:=cw U9.out 4 (v:=.int .i64 d2)
     have t0_:=cw T9.out 0 (v:=.int .i64 0)
     have t1_:=cw T9.out 1 (v:=.int .i64 0)
     have t2_:=cw T9.out 2 (v:=.int .i64 0)
     have t3_:=cw T9.out 3 (v:=.int .i64 0)
     have t4_:=cw T9.out 4 (v:=.int .i64 0)
     have z0_:=blk_frozen T9.out 0
     have z1_:=blk_frozen T9.out 1
     have z2_:=blk_frozen T9.out 2
     have z3_:=blk_frozen T9.out 3
     have z4_:=blk_frozen T9.out 4
     go_wp2
     have R5:=AS (show((((((W9).setCell ⟨w.heap.size+1+1,0,none⟩ (.int .i64 4)).setCell ⟨w.heap.size+1+1,1,none⟩ (.int .i64 0)).setCell ⟨w.heap.size+1+1,2,none⟩ (.int .i64 d0)).setCell ⟨w.heap.size+1+1,3,none⟩ (.int .i64 d1)).setCell ⟨w.heap.size+1+1,4,none⟩ (.int .i64 d2)).heap[w.heap.size+1+1]?=some (.cells #[.int .i64 4,.int .i64 0,.int .i64 d0,.int .i64 d1,.int .i64 d2] 33 (0,0)) from(by
      have q1:=blk_set T9.out 0 (.int .i64 4)
      have q2:=blk_set q1 1 (.int .i64 0)
      have q3:=blk_set q2 2 (.int .i64 d0)
      have q4:=blk_set q3 3 (.int .i64 d1)
      have q5:=blk_set q4 4 (.int .i64 d2)
      exact blk_as q5 (by simp)))
     have K5:=AS (show KS (fun y=>y=w.heap.size+1+1) W9 ((((((W9).setCell ⟨w.heap.size+1+1,0,none⟩ (.int .i64 4)).setCell ⟨w.heap.size+1+1,1,none⟩ (.int .i64 0)).setCell ⟨w.heap.size+1+1,2,none⟩ (.int .i64 d0)).setCell ⟨w.heap.size+1+1,3,none⟩ (.int .i64 d1)).setCell ⟨w.heap.size+1+1,4,none⟩ (.int .i64 d2)) from(by repeat (with_reducible first | refine KS.set1 ?_ _ _ | exact KS.refl _ _)))
     generalize (((((W9).setCell ⟨w.heap.size+1+1,0,none⟩ (.int .i64 4)).setCell ⟨w.heap.size+1+1,1,none⟩ (.int .i64 0)).setCell ⟨w.heap.size+1+1,2,none⟩ (.int .i64 d0)).setCell ⟨w.heap.size+1+1,3,none⟩ (.int .i64 d1)).setCell ⟨w.heap.size+1+1,4,none⟩ (.int .i64 d2)=W5 at R5 K5 ⊢
     obtain⟨g0_,g1_,g2_,g3_,g4_⟩:=(show W5.cell? ⟨w.heap.size+1+1,0,none⟩=some (.int .i64 4)/\W5.cell? ⟨w.heap.size+1+1,1,none⟩=some (.int .i64 0)/\W5.cell? ⟨w.heap.size+1+1,2,none⟩=some (.int .i64 d0)/\W5.cell? ⟨w.heap.size+1+1,3,none⟩=some (.int .i64 d1)/\W5.cell? ⟨w.heap.size+1+1,4,none⟩=some (.int .i64 d2) from⟨cw R5.out 0,cw R5.out 1,cw R5.out 2,cw R5.out 3,cw R5.out 4⟩)
     refine bodyPost_ret (v:=.tuple #[entV (⟨4,0,d0,d1,d2⟩:Ent),.bool true]) (by simp[results,Tryz.results70,go_sem,entV,g0_,g1_,g2_,g3_,g4_]) rfl ?_
     rw[NR.out]
     exact⟨rfl,B9.out.trans (K5.out.toBelow (fun y hy=>by have hy':y=w.heap.size+1+1:=hy;omega) B9.out.size)⟩
    | false =>
     rw[hbz] at p1_
     have HBZ:=AS (show(s.nodes.getD i (S.Node.new i)).cpu.busy=false from by rw[HND.out];exact hbz)
     clear hbz
     go_wp2
     go_roundw
     case rel =>
      refine⟨i+1,by go_num,by omega,⟨fun j hj=>?_,below_alloc R.out.2 _⟩⟩
      by_cases e:j=i
      ·rw[e];exact HBZ.out
      ·exact R.out.1 j (by omega)
     case measure=>simp[intOf];omega
   ·have hin:i=ps.length:=by omega
    have RX:=AS (show(∀ j:Nat,j < s.nodes.length->(s.nodes.getD j (S.Node.new j)).cpu.busy=false)/\Below W.heap.size W wr from⟨fun j hj=>R.out.1 j (by have:=HNP.out;omega),R.out.2⟩)
    have NR:=AS (NX2.out.trans (if_neg (by rw[any_no RX.out.1];decide)))
    have T1:=AS (blk_below BT.out RX.out.2)
    have BR:=AS (W4.out.trans (RX.out.2.mono W4.out.size))
    have t0_:=cw T1.out 0 (v:=.int .i64 0)
    have t1_:=cw T1.out 1 (v:=.int .i64 0)
    have t2_:=cw T1.out 2 (v:=.int .i64 0)
    have t3_:=cw T1.out 3 (v:=.int .i64 0)
    have t4_:=cw T1.out 4 (v:=.int .i64 0)
    have z0_:=blk_frozen T1.out 0
    have z1_:=blk_frozen T1.out 1
    have z2_:=blk_frozen T1.out 2
    have z3_:=blk_frozen T1.out 3
    have z4_:=blk_frozen T1.out 4
    subst hin
    go_wp2
    have R5:=AS (show((((((wr).setCell ⟨w.heap.size+1+1,0,none⟩ (.int .i64 0)).setCell ⟨w.heap.size+1+1,1,none⟩ (.int .i64 0)).setCell ⟨w.heap.size+1+1,2,none⟩ (.int .i64 0)).setCell ⟨w.heap.size+1+1,3,none⟩ (.int .i64 0)).setCell ⟨w.heap.size+1+1,4,none⟩ (.int .i64 0)).heap[w.heap.size+1+1]?=some (.cells #[.int .i64 0,.int .i64 0,.int .i64 0,.int .i64 0,.int .i64 0] 33 (0,0)) from(by
     have q1:=blk_set T1.out 0 (.int .i64 0)
     have q2:=blk_set q1 1 (.int .i64 0)
     have q3:=blk_set q2 2 (.int .i64 0)
     have q4:=blk_set q3 3 (.int .i64 0)
     have q5:=blk_set q4 4 (.int .i64 0)
     exact blk_as q5 (by simp)))
    have K5:=AS (show KS (fun y=>y=w.heap.size+1+1) wr ((((((wr).setCell ⟨w.heap.size+1+1,0,none⟩ (.int .i64 0)).setCell ⟨w.heap.size+1+1,1,none⟩ (.int .i64 0)).setCell ⟨w.heap.size+1+1,2,none⟩ (.int .i64 0)).setCell ⟨w.heap.size+1+1,3,none⟩ (.int .i64 0)).setCell ⟨w.heap.size+1+1,4,none⟩ (.int .i64 0)) from(by repeat (with_reducible first | refine KS.set1 ?_ _ _ | exact KS.refl _ _)))
    generalize (((((wr).setCell ⟨w.heap.size+1+1,0,none⟩ (.int .i64 0)).setCell ⟨w.heap.size+1+1,1,none⟩ (.int .i64 0)).setCell ⟨w.heap.size+1+1,2,none⟩ (.int .i64 0)).setCell ⟨w.heap.size+1+1,3,none⟩ (.int .i64 0)).setCell ⟨w.heap.size+1+1,4,none⟩ (.int .i64 0)=W5 at R5 K5 ⊢
    obtain⟨g0_,g1_,g2_,g3_,g4_⟩:=(show W5.cell? ⟨w.heap.size+1+1,0,none⟩=some (.int .i64 0)/\W5.cell? ⟨w.heap.size+1+1,1,none⟩=some (.int .i64 0)/\W5.cell? ⟨w.heap.size+1+1,2,none⟩=some (.int .i64 0)/\W5.cell? ⟨w.heap.size+1+1,3,none⟩=some (.int .i64 0)/\W5.cell? ⟨w.heap.size+1+1,4,none⟩=some (.int .i64 0) from⟨cw R5.out 0,cw R5.out 1,cw R5.out 2,cw R5.out 3,cw R5.out 4⟩)
    refine bodyPost_ret (v:=.tuple #[entV ent0,.bool false]) (by simp[results,Tryz.results70,go_sem,entV,ent0,g0_,g1_,g2_,g3_,g4_]) rfl ?_
    rw[NR.out]
    exact⟨rfl,BR.out.trans (K5.out.toBelow (fun y hy=>by have hy':y=w.heap.size+1+1:=hy;omega) BR.out.size)⟩
end Go.Proofs.YtiebppkhaiofeaaGreat.K
