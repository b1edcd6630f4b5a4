/- Part of the proof of TopStarver: what functions of the program do. -/
import Derived.Test.YtiebppkhaiofeaaGreatS23
import Derived.Test.YtiebppkhaiofeaaGreatS25
set_option maxHeartbeats 4000000
set_option maxRecDepth 100000
set_option linter.unusedVariables false
set_option linter.unusedSimpArgs false
namespace Go.Proofs.YtiebppkhaiofeaaGreat.K
open Go.RowKit Go.Proofs.YtiebppkhaiofeaaGreatW.PrintWords Go.Proofs.YtiebppkhaiofeaaGreat.S
attribute [local go_sem] World.cell?_alloc_some
open Go.ChangeMaps Go.MapKept
theorem under195:Tryz.prog.underlying 195=some (.map 3 145):=by kernel_rfl
theorem zeroF (w:Go.World):(zeroValue 145).run Tryz.prog w=.ok .nilFunc w:=by kernel_rfl
theorem homeTake_any {c:Cfg} {h:S.Home} {b_ bm bq:Nat} {K:Nat->Nat} {w:Go.World} (hH:HomeK c h b_ bm bq K w) (hql:∀ r∈h.queue.rows,r.queue.length≤1000000) (l:Let) (d:Drw):Calls Tryz.prog 58 #[.pointer (some ⟨b_,0,none⟩),letV l,drwV d] w (HRet c (h.take c l d).1 (h.take c l d).2 b_ bm bq K w):=by
 obtain⟨k,f,t,b,qq,wh,wr,⟨c0,oo,hh,dd⟩⟩:=l
 obtain⟨d0,d1,d2⟩:=d
 have N1:=AS (GX.box (homeStays _ _ _ _ _) (GX.box (homeStays _ _ _ _ _) (GX.refl (m:=2) hH) (.cells #[.int .i64 k,.int .i64 f,.int .i64 t,.int .i64 b,.int .i64 qq,.int .i64 wh,.bool wr,.int .i64 c0,.bool oo,.bool hh,.int .i64 dd] 47)) (.cells #[.int .i64 d0,.int .i64 d1,.int .i64 d2] 74))
 rw[show(w.alloc (.cells #[.int .i64 k,.int .i64 f,.int .i64 t,.int .i64 b,.int .i64 qq,.int .i64 wh,.bool wr,.int .i64 c0,.bool oo,.bool hh,.int .i64 dd] 47)).heap.size=w.heap.size+1 by simp] at N1
 show Calls Tryz.prog 58 #[.pointer (some ⟨b_,0,none⟩),.agg #[.int .i64 k,.int .i64 f,.int .i64 t,.int .i64 b,.int .i64 qq,.int .i64 wh,.bool wr,.int .i64 c0,.bool oo,.bool hh,.int .i64 dd],.agg #[.int .i64 d0,.int .i64 d1,.int .i64 d2]] w (HRet c (h.take c ⟨k,f,t,b,qq,wh,wr,⟨c0,oo,hh,dd⟩⟩ ⟨d0,d1,d2⟩).1 (h.take c ⟨k,f,t,b,qq,wh,wr,⟨c0,oo,hh,dd⟩⟩ ⟨d0,d1,d2⟩).2 b_ bm bq K w)
 have HR:=AS (show h.take c ⟨k,f,t,b,qq,wh,wr,⟨c0,oo,hh,dd⟩⟩ ⟨d0,d1,d2⟩=if Let.check c ⟨k,f,t,b,qq,wh,wr,⟨c0,oo,hh,dd⟩⟩≠0∨t≠c.nodes then (h,[]) else if k=1 then (match h.queue.current b with | some a=>(h,Home.tokens c a.node b ⟨c0,oo,hh,dd⟩) | none=>(h.put b ⟨c0,oo,hh,dd⟩,[])) else if k=2 then ((h.memTake b (reply c.policy (h.get b) wr ⟨d0,d1,d2⟩).1 (reply c.policy (h.get b) wr ⟨d0,d1,d2⟩).2.1 (reply c.policy (h.get b) wr ⟨d0,d1,d2⟩).2.2).1,Home.tokens c f b (h.memTake b (reply c.policy (h.get b) wr ⟨d0,d1,d2⟩).1 (reply c.policy (h.get b) wr ⟨d0,d1,d2⟩).2.1 (reply c.policy (h.get b) wr ⟨d0,d1,d2⟩).2.2).2) else if k=3 then h.begin_ c (h.queue.ask b f) else if k=5 then ({ h with queue:=(h.queue.done b qq).1 },if (h.queue.done b qq).2 then spread 6 c.nodes b qq 0 c.nodes else []) else if k=7 then h.begin_ c (h.queue.ack b qq f) else (h,[]) from rfl)
 have QL:=AS hql
 have CK:=AS (show ∀ W',Calls Tryz.prog 86 _ W' _ from fun W'=>lcheck_any c ⟨k,f,t,b,qq,wh,wr,⟨c0,oo,hh,dd⟩⟩ W')
 simp only[letV,cfgV] at CK
 generalize hck:Let.check c ⟨k,f,t,b,qq,wh,wr,⟨c0,oo,hh,dd⟩⟩=ck at *
 generalize h.take c ⟨k,f,t,b,qq,wh,wr,⟨c0,oo,hh,dd⟩⟩ ⟨d0,d1,d2⟩=R at *
 clear hql
 clear hH
 go_enter Tryz.func58,Tryz.ntmps58
 go_upto_region 1 with fail
 generalize ((w.alloc (.cells #[.int .i64 k,.int .i64 f,.int .i64 t,.int .i64 b,.int .i64 qq,.int .i64 wh,.bool wr,.int .i64 c0,.bool oo,.bool hh,.int .i64 dd] 47)).alloc (.cells #[.int .i64 d0,.int .i64 d1,.int .i64 d2] 74))=W at N1 ⊢
 generalize hg:w.heap.size=g at *
 have hmf:∀ (fn:Fn) (first cap:Array Value) (w:Go.World),(Instr.makeFunc fn first cap).run Tryz.prog w=.ok (.func fn first cap) w:=fun _ _ _ _=>rfl
 have KEEP:=AS (show ∀ (h':S.Home) (bx:List (Nat×Obj)) x,GX (HomeK c h' b_ bm bq) 2 K w bx x->(g,(.cells #[.int .i64 k,.int .i64 f,.int .i64 t,.int .i64 b,.int .i64 qq,.int .i64 wh,.bool wr,.int .i64 c0,.bool oo,.bool hh,.int .i64 dd] 47:Obj))∈bx->(x.cell? ⟨b_,0,none⟩=some (.int .i64 c.nodes)/\x.cell? ⟨b_,1,none⟩=some (.int .i64 c.blocks)/\x.cell? ⟨b_,2,none⟩=some (.int .i64 c.tokens)/\x.cell? ⟨b_,3,none⟩=some (.int .i64 c.sets)/\x.cell? ⟨b_,4,none⟩=some (.int .i64 c.ways)/\x.cell? ⟨b_,5,none⟩=some (.int .i64 c.cap)/\x.cell? ⟨b_,6,none⟩=some (.int .i64 c.wait)/\x.cell? ⟨b_,7,none⟩=some (.int .i64 c.tries)/\x.cell? ⟨b_,8,none⟩=some (.int .i64 c.policy)/\x.cell? ⟨g,0,none⟩=some (.int .i64 k)/\x.cell? ⟨g,1,none⟩=some (.int .i64 f)/\x.cell? ⟨g,2,none⟩=some (.int .i64 t)/\x.cell? ⟨g,3,none⟩=some (.int .i64 b)/\x.cell? ⟨g,4,none⟩=some (.int .i64 qq)/\x.cell? ⟨g,5,none⟩=some (.int .i64 wh)/\x.cell? ⟨g,6,none⟩=some (.bool wr)/\x.cell? ⟨g,7,none⟩=some (.int .i64 c0)/\x.cell? ⟨g,8,none⟩=some (.bool oo)/\x.cell? ⟨g,9,none⟩=some (.bool hh)/\x.cell? ⟨g,10,none⟩=some (.int .i64 dd)) from fun h' bx x hx m0=>by
  have h11:=hx.blkH
  have hb0:=hx.at_ m0
  exact⟨cw h11 0,cw h11 1,cw h11 2,cw h11 3,cw h11 4,cw h11 5,cw h11 6,cw h11 7,cw h11 8,cw hb0 0,cw hb0 1,cw hb0 2,cw hb0 3,cw hb0 4,cw hb0 5,cw hb0 6,cw hb0 7,cw hb0 8,cw hb0 9,cw hb0 10⟩)
 have hS_:=KEEP.out _ _ _ N1.out (by simp)
 have e0_:=hS_.1
 have e1_:=hS_.2.1
 have e2_:=hS_.2.2.1
 have e3_:=hS_.2.2.2.1
 have e4_:=hS_.2.2.2.2.1
 have e5_:=hS_.2.2.2.2.2.1
 have e6_:=hS_.2.2.2.2.2.2.1
 have e7_:=hS_.2.2.2.2.2.2.2.1
 have e8_:=hS_.2.2.2.2.2.2.2.2.1
 have e9_:=hS_.2.2.2.2.2.2.2.2.2.1
 have e10_:=hS_.2.2.2.2.2.2.2.2.2.2.1
 have e11_:=hS_.2.2.2.2.2.2.2.2.2.2.2.1
 have e12_:=hS_.2.2.2.2.2.2.2.2.2.2.2.2.1
 have e13_:=hS_.2.2.2.2.2.2.2.2.2.2.2.2.2.1
 have e14_:=hS_.2.2.2.2.2.2.2.2.2.2.2.2.2.2.1
 have e15_:=hS_.2.2.2.2.2.2.2.2.2.2.2.2.2.2.2.1
 have e16_:=hS_.2.2.2.2.2.2.2.2.2.2.2.2.2.2.2.2.1
 have e17_:=hS_.2.2.2.2.2.2.2.2.2.2.2.2.2.2.2.2.2.1
 have e18_:=hS_.2.2.2.2.2.2.2.2.2.2.2.2.2.2.2.2.2.2.1
 have e19_:=hS_.2.2.2.2.2.2.2.2.2.2.2.2.2.2.2.2.2.2.2
 clear hS_
 have CK1:=AS (CK.out W.drew)
 by_cases q1:ck=0
 case neg =>
  have hr:=HR.out.trans (if_pos (.inl q1))
  have hd2:(ck != 0)=true:=by simp[q1]
  go_cut [26] (fun v26 wx=>v26=.bool true/\GX (HomeK c h b_ bm bq) 2 K w [(g+1,(.cells #[.int .i64 d0,.int .i64 d1,.int .i64 d2] 74:Obj)),(g,(.cells #[.int .i64 k,.int .i64 f,.int .i64 t,.int .i64 b,.int .i64 qq,.int .i64 wh,.bool wr,.int .i64 c0,.bool oo,.bool hh,.int .i64 dd] 47:Obj))] wx)
  case first =>
   refine wp_region_any (by kernel_rfl) ?_
   (try (change wpAny _ _ _ _ _ _ _ (World.drew _)))
   refine wpAny_take (i:=0) (v:=?_) rfl (by kernel_rfl) (by kernel_rfl) (by kernel_rfl) (fun _ _ _ h=>h) (Or.inl ⟨by kernel_rfl,?_⟩) ?_
   rotate_left
   ·intro w;go_simp;try (with_reducible rfl)
   rotate_left
   refine wpAny_take (i:=1) (v:=?_) rfl (by kernel_rfl) (by kernel_rfl) (by kernel_rfl) (fun _ _ _ h=>h) (Or.inl ⟨by kernel_rfl,?_⟩) ?_
   rotate_left
   ·intro w;go_simp;try (with_reducible rfl)
   rotate_left
   refine wpAny_take (i:=2) (v:=?_) rfl (by kernel_rfl) (by kernel_rfl) (by kernel_rfl) (fun _ _ _ h=>h) (Or.inl ⟨by kernel_rfl,?_⟩) ?_
   rotate_left
   ·intro w;go_simp;try (with_reducible rfl)
   rotate_left
   refine wpAny_ready (rs:=[3,4]) (by kernel_rfl) (by simp) ?_
   refine AllReady.cons rfl (fun K hK=>?_) (AllReady.cons rfl (fun K hK=>?_) AllReady.nil)
   ·(try go_simp)
    (try (refine hK _ _ ?_;clear hK K))
    refine wpAny_ready (rs:=[4]) (by kernel_rfl) (by simp) ?_
    refine AllReady.cons rfl (fun K hK=>?_) AllReady.nil
    (try go_simp)
    (try (refine hK _ _ ?_;clear hK K))
    refine wpAny_ready (rs:=[5]) (by kernel_rfl) (by simp) ?_
    refine AllReady.cons rfl (fun K hK=>?_) AllReady.nil
    (try go_simp)
    go_wp2_with (go_at_call 86;refine CK1.out.mono ?_;rintro e w2 ⟨rfl,hb2⟩;have N2:=AS (GX.below (homeStays _ _ _ _ _) (GX.drew (homeStays _ _ _ _ _) N1.out) hb2);clear hb2)
    (try (refine hK _ _ ?_;clear hK K))
    refine wpAny_take (i:=6) (v:=?_) rfl (by kernel_rfl) (by kernel_rfl) (by kernel_rfl) (fun _ _ _ h=>h) (Or.inl ⟨by kernel_rfl,?_⟩) ?_
    rotate_left
    ·intro w;go_simp;try (with_reducible rfl)
    rotate_left
    refine wpAny_take (i:=7) (v:=?_) rfl (by kernel_rfl) (by kernel_rfl) (by kernel_rfl) (fun _ _ _ h=>h) (Or.inl ⟨by kernel_rfl,?_⟩) ?_
    rotate_left
    ·intro w;go_simp;try (with_reducible rfl)
    rotate_left
    refine wpAny_take (i:=8) (v:=undef) rfl (by kernel_rfl) (by kernel_rfl) (by kernel_rfl) (fun _ _ _ h=>h) (Or.inr ⟨by kernel_rfl,rfl⟩) ?_
    refine wpAny_take (i:=9) (v:=undef) rfl (by kernel_rfl) (by kernel_rfl) (by kernel_rfl) (fun _ _ _ h=>h) (Or.inr ⟨by kernel_rfl,rfl⟩) ?_
    refine wpAny_take (i:=10) (v:=undef) rfl (by kernel_rfl) (by kernel_rfl) (by kernel_rfl) (fun _ _ _ h=>h) (Or.inr ⟨by kernel_rfl,rfl⟩) ?_
    refine wpAny_take (i:=11) (v:=undef) rfl (by kernel_rfl) (by kernel_rfl) (by kernel_rfl) (fun _ _ _ h=>h) (Or.inr ⟨by kernel_rfl,rfl⟩) ?_
    refine wpAny_take (i:=12) (v:=undef) rfl (by kernel_rfl) (by kernel_rfl) (by kernel_rfl) (fun _ _ _ h=>h) (Or.inr ⟨by kernel_rfl,rfl⟩) ?_
    refine wpAny_take (i:=13) (v:=undef) rfl (by kernel_rfl) (by kernel_rfl) (by kernel_rfl) (fun _ _ _ h=>h) (Or.inr ⟨by kernel_rfl,rfl⟩) ?_
    refine wpAny_take (i:=14) (v:=undef) rfl (by kernel_rfl) (by kernel_rfl) (by kernel_rfl) (fun _ _ _ h=>h) (Or.inr ⟨by kernel_rfl,rfl⟩) ?_
    refine wpAny_take (i:=15) (v:=undef) rfl (by kernel_rfl) (by kernel_rfl) (by kernel_rfl) (fun _ _ _ h=>h) (Or.inr ⟨by kernel_rfl,rfl⟩) ?_
    refine wpAny_take (i:=16) (v:=?_) rfl (by kernel_rfl) (by kernel_rfl) (by kernel_rfl) (fun _ _ _ h=>h) (Or.inl ⟨by kernel_rfl,?_⟩) ?_
    rotate_left
    ·intro w;go_simp;try (with_reducible rfl)
    rotate_left
    refine wpAny_done (by kernel_rfl) ?_ _
    go_simp
    go_wp2_with fail
    go_meet
    exact⟨rfl,N2.out⟩
   ·(try go_simp)
    (try (refine hK _ _ ?_;clear hK K))
    refine wpAny_ready (rs:=[3]) (by kernel_rfl) (by simp) ?_
    refine AllReady.cons rfl (fun K hK=>?_) AllReady.nil
    (try go_simp)
    (try (refine hK _ _ ?_;clear hK K))
    refine wpAny_ready (rs:=[5]) (by kernel_rfl) (by simp) ?_
    refine AllReady.cons rfl (fun K hK=>?_) AllReady.nil
    (try go_simp)
    go_wp2_with (go_at_call 86;refine CK1.out.mono ?_;rintro e w2 ⟨rfl,hb2⟩;have N2:=AS (GX.below (homeStays _ _ _ _ _) (GX.drew (homeStays _ _ _ _ _) N1.out) hb2);clear hb2)
    (try (refine hK _ _ ?_;clear hK K))
    refine wpAny_take (i:=6) (v:=?_) rfl (by kernel_rfl) (by kernel_rfl) (by kernel_rfl) (fun _ _ _ h=>h) (Or.inl ⟨by kernel_rfl,?_⟩) ?_
    rotate_left
    ·intro w;go_simp;try (with_reducible rfl)
    rotate_left
    refine wpAny_take (i:=7) (v:=?_) rfl (by kernel_rfl) (by kernel_rfl) (by kernel_rfl) (fun _ _ _ h=>h) (Or.inl ⟨by kernel_rfl,?_⟩) ?_
    rotate_left
    ·intro w;go_simp;try (with_reducible rfl)
    rotate_left
    refine wpAny_take (i:=8) (v:=undef) rfl (by kernel_rfl) (by kernel_rfl) (by kernel_rfl) (fun _ _ _ h=>h) (Or.inr ⟨by kernel_rfl,rfl⟩) ?_
    refine wpAny_take (i:=9) (v:=undef) rfl (by kernel_rfl) (by kernel_rfl) (by kernel_rfl) (fun _ _ _ h=>h) (Or.inr ⟨by kernel_rfl,rfl⟩) ?_
    refine wpAny_take (i:=10) (v:=undef) rfl (by kernel_rfl) (by kernel_rfl) (by kernel_rfl) (fun _ _ _ h=>h) (Or.inr ⟨by kernel_rfl,rfl⟩) ?_
    refine wpAny_take (i:=11) (v:=undef) rfl (by kernel_rfl) (by kernel_rfl) (by kernel_rfl) (fun _ _ _ h=>h) (Or.inr ⟨by kernel_rfl,rfl⟩) ?_
    refine wpAny_take (i:=12) (v:=undef) rfl (by kernel_rfl) (by kernel_rfl) (by kernel_rfl) (fun _ _ _ h=>h) (Or.inr ⟨by kernel_rfl,rfl⟩) ?_
    refine wpAny_take (i:=13) (v:=undef) rfl (by kernel_rfl) (by kernel_rfl) (by kernel_rfl) (fun _ _ _ h=>h) (Or.inr ⟨by kernel_rfl,rfl⟩) ?_
    refine wpAny_take (i:=14) (v:=undef) rfl (by kernel_rfl) (by kernel_rfl) (by kernel_rfl) (fun _ _ _ h=>h) (Or.inr ⟨by kernel_rfl,rfl⟩) ?_
    refine wpAny_take (i:=15) (v:=undef) rfl (by kernel_rfl) (by kernel_rfl) (by kernel_rfl) (fun _ _ _ h=>h) (Or.inr ⟨by kernel_rfl,rfl⟩) ?_
    refine wpAny_take (i:=16) (v:=?_) rfl (by kernel_rfl) (by kernel_rfl) (by kernel_rfl) (fun _ _ _ h=>h) (Or.inl ⟨by kernel_rfl,?_⟩) ?_
    rotate_left
    ·intro w;go_simp;try (with_reducible rfl)
    rotate_left
    refine wpAny_done (by kernel_rfl) ?_ _
    go_simp
    go_wp2_with fail
    go_meet
    exact⟨rfl,N2.out⟩
  case rest =>
   obtain⟨rfl,hcut⟩:=hcut
   have N2:=AS hcut
   clear hcut
   go_wp2
   go_ret
   rw[hr]
   exact HRet.none N2.out
 case pos =>
  have hd9:(ck != 0)=false:=by simp[q1]
  go_cut [26] (fun v26 wx=>v26=.bool (!decide (t=c.nodes))/\GX (HomeK c h b_ bm bq) 2 K w [(g+1,(.cells #[.int .i64 d0,.int .i64 d1,.int .i64 d2] 74:Obj)),(g,(.cells #[.int .i64 k,.int .i64 f,.int .i64 t,.int .i64 b,.int .i64 qq,.int .i64 wh,.bool wr,.int .i64 c0,.bool oo,.bool hh,.int .i64 dd] 47:Obj))] wx)
  case first =>
   refine wp_region_any (by kernel_rfl) ?_
   (try (change wpAny _ _ _ _ _ _ _ (World.drew _)))
   refine wpAny_take (i:=0) (v:=?_) rfl (by kernel_rfl) (by kernel_rfl) (by kernel_rfl) (fun _ _ _ h=>h) (Or.inl ⟨by kernel_rfl,?_⟩) ?_
   rotate_left
   ·intro w;go_simp;try (with_reducible rfl)
   rotate_left
   refine wpAny_take (i:=1) (v:=?_) rfl (by kernel_rfl) (by kernel_rfl) (by kernel_rfl) (fun _ _ _ h=>h) (Or.inl ⟨by kernel_rfl,?_⟩) ?_
   rotate_left
   ·intro w;go_simp;try (with_reducible rfl)
   rotate_left
   refine wpAny_take (i:=2) (v:=?_) rfl (by kernel_rfl) (by kernel_rfl) (by kernel_rfl) (fun _ _ _ h=>h) (Or.inl ⟨by kernel_rfl,?_⟩) ?_
   rotate_left
   ·intro w;go_simp;try (with_reducible rfl)
   rotate_left
   refine wpAny_ready (rs:=[3,4]) (by kernel_rfl) (by simp) ?_
   refine AllReady.cons rfl (fun K hK=>?_) (AllReady.cons rfl (fun K hK=>?_) AllReady.nil)
   ·(try go_simp)
    (try (refine hK _ _ ?_;clear hK K))
    refine wpAny_ready (rs:=[4]) (by kernel_rfl) (by simp) ?_
    refine AllReady.cons rfl (fun K hK=>?_) AllReady.nil
    (try go_simp)
    (try (refine hK _ _ ?_;clear hK K))
    refine wpAny_ready (rs:=[5]) (by kernel_rfl) (by simp) ?_
    refine AllReady.cons rfl (fun K hK=>?_) AllReady.nil
    (try go_simp)
    go_wp2_with (go_at_call 86;refine CK1.out.mono ?_;rintro e w2 ⟨rfl,hb2⟩;have N2:=AS (GX.below (homeStays _ _ _ _ _) (GX.drew (homeStays _ _ _ _ _) N1.out) hb2);clear hb2)
    (try (refine hK _ _ ?_;clear hK K))
    have l2_:=cw (N2.out.at_ (g:=g) (ob:=.cells #[.int .i64 k,.int .i64 f,.int .i64 t,.int .i64 b,.int .i64 qq,.int .i64 wh,.bool wr,.int .i64 c0,.bool oo,.bool hh,.int .i64 dd] 47) (by simp)) 2 (v:=.int .i64 t)
    have nid_:=cw N2.out.blkH 0 (v:=.int .i64 c.nodes)
    refine wpAny_take (i:=6) (v:=?_) rfl (by kernel_rfl) (by kernel_rfl) (by kernel_rfl) (fun _ _ _ h=>h) (Or.inl ⟨by kernel_rfl,?_⟩) ?_
    rotate_left
    ·intro w;go_simp;try (with_reducible rfl)
    rotate_left
    refine wpAny_take (i:=7) (v:=?_) rfl (by kernel_rfl) (by kernel_rfl) (by kernel_rfl) (fun _ _ _ h=>h) (Or.inl ⟨by kernel_rfl,?_⟩) ?_
    rotate_left
    ·intro w;go_simp;try (with_reducible rfl)
    rotate_left
    refine wpAny_take (i:=8) (v:=?_) rfl (by kernel_rfl) (by kernel_rfl) (by kernel_rfl) (fun _ _ _ h=>h) (Or.inl ⟨by kernel_rfl,?_⟩) ?_
    rotate_left
    ·intro w;go_simp;try (with_reducible rfl)
    rotate_left
    refine wpAny_take (i:=10) (v:=?_) rfl (by kernel_rfl) (by kernel_rfl) (by kernel_rfl) (fun _ _ _ h=>h) (Or.inl ⟨by kernel_rfl,?_⟩) ?_
    rotate_left
    ·intro w;go_simp;try (with_reducible rfl)
    rotate_left
    refine wpAny_take (i:=11) (v:=?_) rfl (by kernel_rfl) (by kernel_rfl) (by kernel_rfl) (fun _ _ _ h=>h) (Or.inl ⟨by kernel_rfl,?_⟩) ?_
    rotate_left
    ·intro w;go_simp;try (with_reducible rfl)
    rotate_left
    refine wpAny_take (i:=12) (v:=?_) rfl (by kernel_rfl) (by kernel_rfl) (by kernel_rfl) (fun _ _ _ h=>h) (Or.inl ⟨by kernel_rfl,?_⟩) ?_
    rotate_left
    ·intro w;go_simp;try (with_reducible rfl)
    rotate_left
    refine wpAny_take (i:=13) (v:=?_) rfl (by kernel_rfl) (by kernel_rfl) (by kernel_rfl) (fun _ _ _ h=>h) (Or.inl ⟨by kernel_rfl,?_⟩) ?_
    rotate_left
    ·intro w;go_simp;try (with_reducible rfl)
    rotate_left
    refine wpAny_ready (rs:=[9,14]) (by kernel_rfl) (by simp) ?_
    refine AllReady.cons rfl (fun K hK=>?_) (AllReady.cons rfl (fun K hK=>?_) AllReady.nil)
    ·(try go_simp)
     (try (refine hK _ _ ?_;clear hK K))
     refine wpAny_ready (rs:=[14]) (by kernel_rfl) (by simp) ?_
     refine AllReady.cons rfl (fun K hK=>?_) AllReady.nil
     (try go_simp)
     (try (refine hK _ _ ?_;clear hK K))
     refine wpAny_take (i:=15) (v:=?_) rfl (by kernel_rfl) (by kernel_rfl) (by kernel_rfl) (fun _ _ _ h=>h) (Or.inl ⟨by kernel_rfl,?_⟩) ?_
     rotate_left
     ·intro w;go_simp;try (with_reducible rfl)
     rotate_left
     refine wpAny_take (i:=16) (v:=?_) rfl (by kernel_rfl) (by kernel_rfl) (by kernel_rfl) (fun _ _ _ h=>h) (Or.inl ⟨by kernel_rfl,?_⟩) ?_
     rotate_left
     ·intro w;go_simp;try (with_reducible rfl)
     rotate_left
     refine wpAny_done (by kernel_rfl) ?_ _
     go_simp
     go_wp2_with fail
     go_meet
     refine⟨?_,N2.out⟩
     first
      | rfl
      | simp[go_sem]
    ·(try go_simp)
     (try (refine hK _ _ ?_;clear hK K))
     refine wpAny_ready (rs:=[9]) (by kernel_rfl) (by simp) ?_
     refine AllReady.cons rfl (fun K hK=>?_) AllReady.nil
     (try go_simp)
     (try (refine hK _ _ ?_;clear hK K))
     refine wpAny_take (i:=15) (v:=?_) rfl (by kernel_rfl) (by kernel_rfl) (by kernel_rfl) (fun _ _ _ h=>h) (Or.inl ⟨by kernel_rfl,?_⟩) ?_
     rotate_left
     ·intro w;go_simp;try (with_reducible rfl)
     rotate_left
     refine wpAny_take (i:=16) (v:=?_) rfl (by kernel_rfl) (by kernel_rfl) (by kernel_rfl) (fun _ _ _ h=>h) (Or.inl ⟨by kernel_rfl,?_⟩) ?_
     rotate_left
     ·intro w;go_simp;try (with_reducible rfl)
     rotate_left
     refine wpAny_done (by kernel_rfl) ?_ _
     go_simp
     go_wp2_with fail
     go_meet
     refine⟨?_,N2.out⟩
     first
      | rfl
      | simp[go_sem]
   ·(try go_simp)
    (try (refine hK _ _ ?_;clear hK K))
    refine wpAny_ready (rs:=[3]) (by kernel_rfl) (by simp) ?_
    refine AllReady.cons rfl (fun K hK=>?_) AllReady.nil
    (try go_simp)
    (try (refine hK _ _ ?_;clear hK K))
    refine wpAny_ready (rs:=[5]) (by kernel_rfl) (by simp) ?_
    refine AllReady.cons rfl (fun K hK=>?_) AllReady.nil
    (try go_simp)
    go_wp2_with (go_at_call 86;refine CK1.out.mono ?_;rintro e w2 ⟨rfl,hb2⟩;have N2:=AS (GX.below (homeStays _ _ _ _ _) (GX.drew (homeStays _ _ _ _ _) N1.out) hb2);clear hb2)
    (try (refine hK _ _ ?_;clear hK K))
    have l2_:=cw (N2.out.at_ (g:=g) (ob:=.cells #[.int .i64 k,.int .i64 f,.int .i64 t,.int .i64 b,.int .i64 qq,.int .i64 wh,.bool wr,.int .i64 c0,.bool oo,.bool hh,.int .i64 dd] 47) (by simp)) 2 (v:=.int .i64 t)
    have nid_:=cw N2.out.blkH 0 (v:=.int .i64 c.nodes)
    refine wpAny_take (i:=6) (v:=?_) rfl (by kernel_rfl) (by kernel_rfl) (by kernel_rfl) (fun _ _ _ h=>h) (Or.inl ⟨by kernel_rfl,?_⟩) ?_
    rotate_left
    ·intro w;go_simp;try (with_reducible rfl)
    rotate_left
    refine wpAny_take (i:=7) (v:=?_) rfl (by kernel_rfl) (by kernel_rfl) (by kernel_rfl) (fun _ _ _ h=>h) (Or.inl ⟨by kernel_rfl,?_⟩) ?_
    rotate_left
    ·intro w;go_simp;try (with_reducible rfl)
    rotate_left
    refine wpAny_take (i:=8) (v:=?_) rfl (by kernel_rfl) (by kernel_rfl) (by kernel_rfl) (fun _ _ _ h=>h) (Or.inl ⟨by kernel_rfl,?_⟩) ?_
    rotate_left
    ·intro w;go_simp;try (with_reducible rfl)
    rotate_left
    refine wpAny_take (i:=10) (v:=?_) rfl (by kernel_rfl) (by kernel_rfl) (by kernel_rfl) (fun _ _ _ h=>h) (Or.inl ⟨by kernel_rfl,?_⟩) ?_
    rotate_left
    ·intro w;go_simp;try (with_reducible rfl)
    rotate_left
    refine wpAny_take (i:=11) (v:=?_) rfl (by kernel_rfl) (by kernel_rfl) (by kernel_rfl) (fun _ _ _ h=>h) (Or.inl ⟨by kernel_rfl,?_⟩) ?_
    rotate_left
    ·intro w;go_simp;try (with_reducible rfl)
    rotate_left
    refine wpAny_take (i:=12) (v:=?_) rfl (by kernel_rfl) (by kernel_rfl) (by kernel_rfl) (fun _ _ _ h=>h) (Or.inl ⟨by kernel_rfl,?_⟩) ?_
    rotate_left
    ·intro w;go_simp;try (with_reducible rfl)
    rotate_left
    refine wpAny_take (i:=13) (v:=?_) rfl (by kernel_rfl) (by kernel_rfl) (by kernel_rfl) (fun _ _ _ h=>h) (Or.inl ⟨by kernel_rfl,?_⟩) ?_
    rotate_left
    ·intro w;go_simp;try (with_reducible rfl)
    rotate_left
    refine wpAny_ready (rs:=[9,14]) (by kernel_rfl) (by simp) ?_
    refine AllReady.cons rfl (fun K hK=>?_) (AllReady.cons rfl (fun K hK=>?_) AllReady.nil)
    ·(try go_simp)
     (try (refine hK _ _ ?_;clear hK K))
     refine wpAny_ready (rs:=[14]) (by kernel_rfl) (by simp) ?_
     refine AllReady.cons rfl (fun K hK=>?_) AllReady.nil
     (try go_simp)
     (try (refine hK _ _ ?_;clear hK K))
     refine wpAny_take (i:=15) (v:=?_) rfl (by kernel_rfl) (by kernel_rfl) (by kernel_rfl) (fun _ _ _ h=>h) (Or.inl ⟨by kernel_rfl,?_⟩) ?_
     rotate_left
     ·intro w;go_simp;try (with_reducible rfl)
     rotate_left
     refine wpAny_take (i:=16) (v:=?_) rfl (by kernel_rfl) (by kernel_rfl) (by kernel_rfl) (fun _ _ _ h=>h) (Or.inl ⟨by kernel_rfl,?_⟩) ?_
     rotate_left
     ·intro w;go_simp;try (with_reducible rfl)
     rotate_left
     refine wpAny_done (by kernel_rfl) ?_ _
     go_simp
     go_wp2_with fail
     go_meet
     refine⟨?_,N2.out⟩
     first
      | rfl
      | simp[go_sem]
    ·(try go_simp)
     (try (refine hK _ _ ?_;clear hK K))
     refine wpAny_ready (rs:=[9]) (by kernel_rfl) (by simp) ?_
     refine AllReady.cons rfl (fun K hK=>?_) AllReady.nil
     (try go_simp)
     (try (refine hK _ _ ?_;clear hK K))
     refine wpAny_take (i:=15) (v:=?_) rfl (by kernel_rfl) (by kernel_rfl) (by kernel_rfl) (fun _ _ _ h=>h) (Or.inl ⟨by kernel_rfl,?_⟩) ?_
     rotate_left
     ·intro w;go_simp;try (with_reducible rfl)
     rotate_left
     refine wpAny_take (i:=16) (v:=?_) rfl (by kernel_rfl) (by kernel_rfl) (by kernel_rfl) (fun _ _ _ h=>h) (Or.inl ⟨by kernel_rfl,?_⟩) ?_
     rotate_left
     ·intro w;go_simp;try (with_reducible rfl)
     rotate_left
     refine wpAny_done (by kernel_rfl) ?_ _
     go_simp
     go_wp2_with fail
     go_meet
     refine⟨?_,N2.out⟩
     first
      | rfl
      | simp[go_sem]
  case rest =>
   obtain⟨rfl,hcut⟩:=hcut
   have N2:=AS hcut
   clear hcut KEEP N1 e0_ e1_ e2_ e3_ e4_ e5_ e6_ e7_ e8_ e9_ e10_ e11_ e12_ e13_ e14_ e15_ e16_ e17_ e18_ e19_
   by_cases q2:t=c.nodes
   case neg =>
    have hr:=HR.out.trans (if_pos (.inr q2))
    have hv2:(!decide (t=c.nodes))=true:=by simp[q2]
    rw[hv2]
    go_wp2
    go_ret
    rw[hr]
    exact HRet.none N2.out
   case pos =>
    have hr:=HR.out.trans (if_neg (by simp[q1,q2]))
    have hv2:(!decide (t=c.nodes))=false:=by simp[q2]
    rw[hv2]
    clear HR
    have HR:=AS hr
    clear hr hv2
    go_upto_region 3 with fail
    have m1:=fun w:Go.World=>run_makeMap (P:=Tryz.prog) 195 w
    have hb0:=(heap_alloc wc (.map #[] 0)).1
    obtain⟨s1,k1,hr1,hi1⟩:=IM.empty.put hb0 under195 under3 1 (.func (.func 87) #[.pointer (some ⟨b_,0,none⟩)] #[])
    have hb1:=set_at hb0 (.map s1 k1)
    obtain⟨s2,k2,hr2,hi2⟩:=hi1.put hb1 under195 under3 2 (.func (.func 88) #[.pointer (some ⟨b_,0,none⟩)] #[])
    have hb2:=set_at hb1 (.map s2 k2)
    obtain⟨s3,k3,hr3,hi3⟩:=hi2.put hb2 under195 under3 3 (.func (.func 89) #[.pointer (some ⟨b_,0,none⟩)] #[])
    have hb3:=set_at hb2 (.map s3 k3)
    obtain⟨s4,k4,hr4,hi4⟩:=hi3.put hb3 under195 under3 5 (.func (.func 90) #[.pointer (some ⟨b_,0,none⟩)] #[])
    have hb4:=set_at hb3 (.map s4 k4)
    obtain⟨s5,k5,hr5,hi5⟩:=hi4.put hb4 under195 under3 7 (.func (.func 91) #[.pointer (some ⟨b_,0,none⟩)] #[])
    have hb5:=set_at hb4 (.map s5 k5)
    have LK:=AS (show ∀ W':Go.World,W'.heap[wc.heap.size]?=some (.map s5 k5)->_ from fun W' h=>hi5.look2 h under195 under3 (zeroF W') k)
    have N3:=AS (GX.below (homeStays _ _ _ _ _) N2.out (below_block (below_block (below_block (below_block (below_block (below_alloc (Below.refl wc.heap.size wc) (.map #[] 0)) (Nat.le_refl _) (.map s1 k1)) (Nat.le_refl _) (.map s2 k2)) (Nat.le_refl _) (.map s3 k3)) (Nat.le_refl _) (.map s4 k4)) (Nat.le_refl _) (.map s5 k5)))
    have HB:=AS hb5
    clear hb0 hb1 hb2 hb3 hb4 hb5 hi1 hi2 hi3 hi4 hi5
    go_upto_region 4 with fail
    clear hr1 hr2 hr3 hr4 hr5 m1
    generalize setBlock (setBlock (setBlock (setBlock (setBlock (wc.alloc (.map #[] 0)) wc.heap.size (.map s1 k1)) wc.heap.size (.map s2 k2)) wc.heap.size (.map s3 k3)) wc.heap.size (.map s4 k4)) wc.heap.size (.map s5 k5)=W4 at N3 HB ⊢
    have lk:=LK.out W4 HB.out
    clear LK HB N2
    have KEEP:=AS (show ∀ (h':S.Home) (bx:List (Nat×Obj)) x,GX (HomeK c h' b_ bm bq) 2 K w bx x->(g,(.cells #[.int .i64 k,.int .i64 f,.int .i64 t,.int .i64 b,.int .i64 qq,.int .i64 wh,.bool wr,.int .i64 c0,.bool oo,.bool hh,.int .i64 dd] 47:Obj))∈bx->(g+1,(.cells #[.int .i64 d0,.int .i64 d1,.int .i64 d2] 74:Obj))∈bx->(x.cell? ⟨g,0,none⟩=some (.int .i64 k)/\x.cell? ⟨g,1,none⟩=some (.int .i64 f)/\x.cell? ⟨g,2,none⟩=some (.int .i64 t)/\x.cell? ⟨g,3,none⟩=some (.int .i64 b)/\x.cell? ⟨g,4,none⟩=some (.int .i64 qq)/\x.cell? ⟨g,5,none⟩=some (.int .i64 wh)/\x.cell? ⟨g,6,none⟩=some (.bool wr)/\x.cell? ⟨g,7,none⟩=some (.int .i64 c0)/\x.cell? ⟨g,8,none⟩=some (.bool oo)/\x.cell? ⟨g,9,none⟩=some (.bool hh)/\x.cell? ⟨g,10,none⟩=some (.int .i64 dd)/\x.cell? ⟨g+1,0,none⟩=some (.int .i64 d0)/\x.cell? ⟨g+1,1,none⟩=some (.int .i64 d1)/\x.cell? ⟨g+1,2,none⟩=some (.int .i64 d2)) from fun h' bx x hx m0 m1=>by
     have h11:=hx.blkH
     have hb0:=hx.at_ m0
     have hb1:=hx.at_ m1
     exact⟨cw hb0 0,cw hb0 1,cw hb0 2,cw hb0 3,cw hb0 4,cw hb0 5,cw hb0 6,cw hb0 7,cw hb0 8,cw hb0 9,cw hb0 10,cw hb1 0,cw hb1 1,cw hb1 2⟩)
    have hS_:=KEEP.out _ _ _ N3.out (by simp) (by simp)
    have e0_:=hS_.1
    have e1_:=hS_.2.1
    have e2_:=hS_.2.2.1
    have e3_:=hS_.2.2.2.1
    have e4_:=hS_.2.2.2.2.1
    have e5_:=hS_.2.2.2.2.2.1
    have e6_:=hS_.2.2.2.2.2.2.1
    have e7_:=hS_.2.2.2.2.2.2.2.1
    have e8_:=hS_.2.2.2.2.2.2.2.2.1
    have e9_:=hS_.2.2.2.2.2.2.2.2.2.1
    have e10_:=hS_.2.2.2.2.2.2.2.2.2.2.1
    have e11_:=hS_.2.2.2.2.2.2.2.2.2.2.2.1
    have e12_:=hS_.2.2.2.2.2.2.2.2.2.2.2.2.1
    have e13_:=hS_.2.2.2.2.2.2.2.2.2.2.2.2.2
    clear hS_
    by_cases c1:k=1
    ·have hr:=HR.out.trans (if_pos c1)
     have lk':(Instr.lookup 195 (.map (some wc.heap.size)) (.int .i64 k) true).run Tryz.prog W4=.ok (.tuple #[.func (.func 87) #[.pointer (some ⟨b_,0,none⟩)] #[],.bool true]) W4:=by rw[lk];simp[fput,c1]
     have lk2:=lk'
     rw[c1] at lk2
     have CA:=AS (HRet.after N3.out (fun K1 hx=>homeCome_any hx ⟨1,f,c.nodes,b,qq,wh,wr,⟨c0,oo,hh,dd⟩⟩ ⟨d0,d1,d2⟩))
     simp only[letV,drwV] at CA
     have HRR:=AS hr
     clear lk hr
     go_wp2_with fail
     refine CA.out.mono ?_
     rintro e w7 ⟨hR,-⟩
     obtain⟨v,K7,rfl,r7⟩:=hR
     have F7:=AS (show HRet c _ _ b_ bm bq K w (.returned v) w7 from⟨v,K7,rfl,r7⟩)
     clear r7 CA lk' lk2
     go_wp2
     go_ret
     rw[HRR.out]
     have h7:=F7.out;revert h7;cases h.queue.current b <;> exact id
    by_cases c2:k=2
    ·have hr:=(HR.out.trans (if_neg c1)).trans (if_pos c2)
     have lk':(Instr.lookup 195 (.map (some wc.heap.size)) (.int .i64 k) true).run Tryz.prog W4=.ok (.tuple #[.func (.func 88) #[.pointer (some ⟨b_,0,none⟩)] #[],.bool true]) W4:=by rw[lk];simp[fput,c2]
     have lk2:=lk'
     rw[c2] at lk2
     have CA:=AS (HRet.after N3.out (fun K1 hx=>homeAsk_any hx ⟨2,f,c.nodes,b,qq,wh,wr,⟨c0,oo,hh,dd⟩⟩ ⟨d0,d1,d2⟩))
     simp only[letV,drwV] at CA
     have HRR:=AS hr
     clear lk hr
     go_wp2_with fail
     refine CA.out.mono ?_
     rintro e w7 ⟨hR,-⟩
     obtain⟨v,K7,rfl,r7⟩:=hR
     have F7:=AS (show HRet c _ _ b_ bm bq K w (.returned v) w7 from⟨v,K7,rfl,r7⟩)
     clear r7 CA lk' lk2
     go_wp2
     go_ret
     rw[HRR.out]
     exact F7.out
    by_cases c3:k=3
    ·have hr:=((HR.out.trans (if_neg c1)).trans (if_neg c2)).trans (if_pos c3)
     have lk':(Instr.lookup 195 (.map (some wc.heap.size)) (.int .i64 k) true).run Tryz.prog W4=.ok (.tuple #[.func (.func 89) #[.pointer (some ⟨b_,0,none⟩)] #[],.bool true]) W4:=by rw[lk];simp[fput,c3]
     have lk2:=lk'
     rw[c3] at lk2
     have CA:=AS (HRet.after N3.out (fun K1 hx=>homePersist_any hx QL.out ⟨3,f,c.nodes,b,qq,wh,wr,⟨c0,oo,hh,dd⟩⟩ ⟨d0,d1,d2⟩))
     simp only[letV,drwV] at CA
     have HRR:=AS hr
     clear lk hr
     go_wp2_with fail
     refine CA.out.mono ?_
     rintro e w7 ⟨hR,-⟩
     obtain⟨v,K7,rfl,r7⟩:=hR
     have F7:=AS (show HRet c _ _ b_ bm bq K w (.returned v) w7 from⟨v,K7,rfl,r7⟩)
     clear r7 CA lk' lk2
     go_wp2
     go_ret
     rw[HRR.out]
     exact F7.out
    by_cases c5:k=5
    ·have hr:=(((HR.out.trans (if_neg c1)).trans (if_neg c2)).trans (if_neg c3)).trans (if_pos c5)
     have lk':(Instr.lookup 195 (.map (some wc.heap.size)) (.int .i64 k) true).run Tryz.prog W4=.ok (.tuple #[.func (.func 90) #[.pointer (some ⟨b_,0,none⟩)] #[],.bool true]) W4:=by rw[lk];simp[fput,c5]
     have lk2:=lk'
     rw[c5] at lk2
     have CA:=AS (HRet.after N3.out (fun K1 hx=>homeDone_any hx ⟨5,f,c.nodes,b,qq,wh,wr,⟨c0,oo,hh,dd⟩⟩ ⟨d0,d1,d2⟩))
     simp only[letV,drwV] at CA
     have HRR:=AS hr
     clear lk hr
     go_wp2_with fail
     refine CA.out.mono ?_
     rintro e w7 ⟨hR,-⟩
     obtain⟨v,K7,rfl,r7⟩:=hR
     have F7:=AS (show HRet c _ _ b_ bm bq K w (.returned v) w7 from⟨v,K7,rfl,r7⟩)
     clear r7 CA lk' lk2
     go_wp2
     go_ret
     rw[HRR.out]
     exact F7.out
    by_cases c7:k=7
    ·have hr:=((((HR.out.trans (if_neg c1)).trans (if_neg c2)).trans (if_neg c3)).trans (if_neg c5)).trans (if_pos c7)
     have lk':(Instr.lookup 195 (.map (some wc.heap.size)) (.int .i64 k) true).run Tryz.prog W4=.ok (.tuple #[.func (.func 91) #[.pointer (some ⟨b_,0,none⟩)] #[],.bool true]) W4:=by rw[lk];simp[fput,c7]
     have lk2:=lk'
     rw[c7] at lk2
     have CA:=AS (HRet.after N3.out (fun K1 hx=>homeAck_any hx ⟨7,f,c.nodes,b,qq,wh,wr,⟨c0,oo,hh,dd⟩⟩ ⟨d0,d1,d2⟩))
     simp only[letV,drwV] at CA
     have HRR:=AS hr
     clear lk hr
     go_wp2_with fail
     refine CA.out.mono ?_
     rintro e w7 ⟨hR,-⟩
     obtain⟨v,K7,rfl,r7⟩:=hR
     have F7:=AS (show HRet c _ _ b_ bm bq K w (.returned v) w7 from⟨v,K7,rfl,r7⟩)
     clear r7 CA lk' lk2
     go_wp2
     go_ret
     rw[HRR.out]
     exact F7.out
    have hr:=(((((HR.out.trans (if_neg c1)).trans (if_neg c2)).trans (if_neg c3)).trans (if_neg c5)).trans (if_neg c7))
    have lk':(Instr.lookup 195 (.map (some wc.heap.size)) (.int .i64 k) true).run Tryz.prog W4=.ok (.tuple #[.nilFunc,.bool false]) W4:=by rw[lk];simp[fput,c1,c2,c3,c5,c7]
    clear lk
    go_wp2
    go_ret
    rw[hr]
    exact HRet.none N3.out
end Go.Proofs.YtiebppkhaiofeaaGreat.K
