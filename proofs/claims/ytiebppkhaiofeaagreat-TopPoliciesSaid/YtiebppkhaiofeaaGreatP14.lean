/- Part of the proof of TopPolicies: what functions of the program do. -/
import Derived.Test.YtiebppkhaiofeaaGreatP13
import Derived.Test.YtiebppkhaiofeaaGreatP00
set_option maxHeartbeats 4000000
set_option maxRecDepth 100000
set_option linter.unusedVariables false
set_option linter.unusedSimpArgs false
open Go.IntKind renaming i64→I
open Go.Value renaming slice→J, int→V, bool→aA, pointer→bA
open Option renaming some→M, none→U
open Go.Obj renaming cells→O
open Go.ChangeMaps renaming setBlock→aB
open Go renaming Calls→bB, World→cA, bodyPost_ret→yA, wpAny_take→zA
open List renaming getD_eq_getElem?_getD→cB, getElem?_eq_getElem→dB, replicate→uA
open Go.Proofs.Tryz renaming prog→dA
open Go.Proofs.YtiebppkhaiofeaaGreatW.PrintWords renaming below_alloc→eA, blk_lt→eB, blk_below→kA, blk_new→nA
open Go.RowKit.Below renaming refl→fA, drew→iA
open Go.Proofs.YtiebppkhaiofeaaGreat.K renaming rec_old→jB, homeStays→nB
open Go.AllReady renaming cons→mB
open Nat renaming le_refl→pA
open Go.Proofs.YtiebppkhaiofeaaGreat.K.KS renaming below→pB, refl→qB
open And renaming intro→qA
namespace Go.Proofs.YtiebppkhaiofeaaGreat.K
open Go.RowKit Go.Proofs.YtiebppkhaiofeaaGreatW.PrintWords Go.Proofs.YtiebppkhaiofeaaGreat.S
attribute [local go_sem] World.cell?_alloc_some
open Go.ChangeMaps Go.MapKept
theorem under195:Tryz.prog.underlying 195=M (.map 3 145):=by kernel_rfl
theorem zeroF (w:cA):(zeroValue 145).run dA w=.ok .nilFunc w:=by kernel_rfl
theorem homeTake_any {c:Cfg} {h:S.Home} {b_ bm bq:Nat} {K:Nat->Nat} {w:cA} (hH:HomeK c h b_ bm bq K w) (hql:∀ r∈h.queue.rows,r.queue.length≤1000000) (l:Let) (d:Drw):bB dA 58 #[bA (M ⟨b_,0,U⟩),letV l,drwV d] w (HRet c (h.take c l d).1 (h.take c l d).2 b_ bm bq K w):=by
 obtain⟨k,f,t,b,qq,wh,wr,⟨c0,oo,hh,dd⟩⟩:=l
 obtain⟨d0,d1,d2⟩:=d
 have N1:=AS (GX.box (nB _ _ _ _ _) (GX.box (nB _ _ _ _ _) (GX.refl (m:=2) hH) (O #[V I k,V I f,V I t,V I b,V I qq,V I wh,aA wr,V I c0,aA oo,aA hh,V I dd] 47)) (O #[V I d0,V I d1,V I d2] 74))
 rw[show(w.alloc (O #[V I k,V I f,V I t,V I b,V I qq,V I wh,aA wr,V I c0,aA oo,aA hh,V I dd] 47)).heap.size=w.heap.size+1 by simp] at N1
 show bB dA 58 #[bA (M ⟨b_,0,U⟩),.agg #[V I k,V I f,V I t,V I b,V I qq,V I wh,aA wr,V I c0,aA oo,aA hh,V I dd],.agg #[V I d0,V I d1,V I d2]] w (HRet c (h.take c ⟨k,f,t,b,qq,wh,wr,⟨c0,oo,hh,dd⟩⟩ ⟨d0,d1,d2⟩).1 (h.take c ⟨k,f,t,b,qq,wh,wr,⟨c0,oo,hh,dd⟩⟩ ⟨d0,d1,d2⟩).2 b_ bm bq K w)
 have HR:=AS (show h.take c ⟨k,f,t,b,qq,wh,wr,⟨c0,oo,hh,dd⟩⟩ ⟨d0,d1,d2⟩=if Let.check c ⟨k,f,t,b,qq,wh,wr,⟨c0,oo,hh,dd⟩⟩≠0∨t≠c.nodes then (h,[]) else if k=1 then (match h.queue.current b with | some a=>(h,Home.tokens c a.node b ⟨c0,oo,hh,dd⟩) | none=>(h.put b ⟨c0,oo,hh,dd⟩,[])) else if k=2 then ((h.memTake b (reply c.policy (h.get b) wr ⟨d0,d1,d2⟩).1 (reply c.policy (h.get b) wr ⟨d0,d1,d2⟩).2.1 (reply c.policy (h.get b) wr ⟨d0,d1,d2⟩).2.2).1,Home.tokens c f b (h.memTake b (reply c.policy (h.get b) wr ⟨d0,d1,d2⟩).1 (reply c.policy (h.get b) wr ⟨d0,d1,d2⟩).2.1 (reply c.policy (h.get b) wr ⟨d0,d1,d2⟩).2.2).2) else if k=3 then h.begin_ c (h.queue.ask b f) else if k=5 then ({ h with queue:=(h.queue.done b qq).1 },if (h.queue.done b qq).2 then spread 6 c.nodes b qq 0 c.nodes else []) else if k=7 then h.begin_ c (h.queue.ack b qq f) else (h,[]) from rfl)
 have QL:=AS hql
 have CK:=AS (show ∀ W',bB dA 86 _ W' _ from fun W'=>lcheck_any c ⟨k,f,t,b,qq,wh,wr,⟨c0,oo,hh,dd⟩⟩ W')
 simp only[letV,cfgV] at CK
 generalize hck:Let.check c ⟨k,f,t,b,qq,wh,wr,⟨c0,oo,hh,dd⟩⟩=ck at *
 generalize h.take c ⟨k,f,t,b,qq,wh,wr,⟨c0,oo,hh,dd⟩⟩ ⟨d0,d1,d2⟩=R at *
 clear hql
 clear hH
 go_enter Tryz.func58,Tryz.ntmps58
 go_upto_region 1 with fail
 generalize ((w.alloc (O #[V I k,V I f,V I t,V I b,V I qq,V I wh,aA wr,V I c0,aA oo,aA hh,V I dd] 47)).alloc (O #[V I d0,V I d1,V I d2] 74))=W at N1 ⊢
 generalize hg:w.heap.size=g at *
 have hmf:∀ (fn:Fn) (first cap:Array Value) (w:cA),(Instr.makeFunc fn first cap).run dA w=.ok (.func fn first cap) w:=fun _ _ _ _=>rfl
 have KEEP:=AS (show ∀ (h':S.Home) (bx:List (Nat×Obj)) x,GX (HomeK c h' b_ bm bq) 2 K w bx x->(g,(O #[V I k,V I f,V I t,V I b,V I qq,V I wh,aA wr,V I c0,aA oo,aA hh,V I dd] 47:Obj))∈bx->(x.cell? ⟨b_,0,U⟩=M (V I c.nodes)/\x.cell? ⟨b_,1,U⟩=M (V I c.blocks)/\x.cell? ⟨b_,2,U⟩=M (V I c.tokens)/\x.cell? ⟨b_,3,U⟩=M (V I c.sets)/\x.cell? ⟨b_,4,U⟩=M (V I c.ways)/\x.cell? ⟨b_,5,U⟩=M (V I c.cap)/\x.cell? ⟨b_,6,U⟩=M (V I c.wait)/\x.cell? ⟨b_,7,U⟩=M (V I c.tries)/\x.cell? ⟨b_,8,U⟩=M (V I c.policy)/\x.cell? ⟨g,0,U⟩=M (V I k)/\x.cell? ⟨g,1,U⟩=M (V I f)/\x.cell? ⟨g,2,U⟩=M (V I t)/\x.cell? ⟨g,3,U⟩=M (V I b)/\x.cell? ⟨g,4,U⟩=M (V I qq)/\x.cell? ⟨g,5,U⟩=M (V I wh)/\x.cell? ⟨g,6,U⟩=M (aA wr)/\x.cell? ⟨g,7,U⟩=M (V I c0)/\x.cell? ⟨g,8,U⟩=M (aA oo)/\x.cell? ⟨g,9,U⟩=M (aA hh)/\x.cell? ⟨g,10,U⟩=M (V I dd)) from fun h' bx x hx m0=>by
  have h11:=hx.blkH
  have hb0:=hx.at_ m0
  exact⟨cw h11 0,cw h11 1,cw h11 2,cw h11 3,cw h11 4,cw h11 5,cw h11 6,cw h11 7,cw h11 8,cw hb0 0,cw hb0 1,cw hb0 2,cw hb0 3,cw hb0 4,cw hb0 5,cw hb0 6,cw hb0 7,cw hb0 8,cw hb0 9,cw hb0 10⟩)
 have hS_:=KEEP.out _ _ _ N1.out zB
 have e0_:=hS_.1
 have e1_:=hS_.2.1
 have e2_:=hS_.2.2.1
 have e3_:=hS_.2.2.2.1
 have e4_:=hS_.2.2.2.2.1
 have e5_:=hS_.2.2.2.2.2.1
 have e6_:=hS_.2.2.2.2.2.2.1
 have e7_:=hS_.2.2.2.2.2.2.2.1
 have e8_:=hS_.2.2.2.2.2.2.2.2.1
 have e9_:=hS_.2.2.2.2.2.2.2.2.2.1
 have e10_:=hS_.2.2.2.2.2.2.2.2.2.2.1
 have e11_:=hS_.2.2.2.2.2.2.2.2.2.2.2.1
 have e12_:=hS_.2.2.2.2.2.2.2.2.2.2.2.2.1
 have e13_:=hS_.2.2.2.2.2.2.2.2.2.2.2.2.2.1
 have e14_:=hS_.2.2.2.2.2.2.2.2.2.2.2.2.2.2.1
 have e15_:=hS_.2.2.2.2.2.2.2.2.2.2.2.2.2.2.2.1
 have e16_:=hS_.2.2.2.2.2.2.2.2.2.2.2.2.2.2.2.2.1
 have e17_:=hS_.2.2.2.2.2.2.2.2.2.2.2.2.2.2.2.2.2.1
 have e18_:=hS_.2.2.2.2.2.2.2.2.2.2.2.2.2.2.2.2.2.2.1
 have e19_:=hS_.2.2.2.2.2.2.2.2.2.2.2.2.2.2.2.2.2.2.2
 clear hS_
 have CK1:=AS (CK.out W.drew)
 by_cases q1:ck=0
 case neg =>
  have hr:=HR.out.trans (if_pos (.inl q1))
  have hd2:(ck != 0)=true:=by simp[q1]
  go_cut [26] (fun v26 wx=>v26=aA true/\GX (HomeK c h b_ bm bq) 2 K w [(g+1,(O #[V I d0,V I d1,V I d2] 74:Obj)),(g,(O #[V I k,V I f,V I t,V I b,V I qq,V I wh,aA wr,V I c0,aA oo,aA hh,V I dd] 47:Obj))] wx)
  case first =>
   refine wp_region_any xB ?_
   (try (change wpAny _ _ _ _ _ _ _ (World.drew _)))
   refine zA (i:=0) (v:=?_) rfl xB xB xB (fun _ _ _ h=>h) (Or.inl ⟨xB,?_⟩) ?_
   rotate_left
   ·intro w;go_simp;try (with_reducible rfl)
   rotate_left
   refine zA (i:=1) (v:=?_) rfl xB xB xB (fun _ _ _ h=>h) (Or.inl ⟨xB,?_⟩) ?_
   rotate_left
   ·intro w;go_simp;try (with_reducible rfl)
   rotate_left
   refine zA (i:=2) (v:=?_) rfl xB xB xB (fun _ _ _ h=>h) (Or.inl ⟨xB,?_⟩) ?_
   rotate_left
   ·intro w;go_simp;try (with_reducible rfl)
   rotate_left
   refine wpAny_ready (rs:=[3,4]) xB zB ?_
   refine mB rfl (fun K hK=>?_) (mB rfl (fun K hK=>?_) AllReady.nil)
   ·(try go_simp)
    (try (refine hK _ _ ?_;clear hK K))
    refine wpAny_ready (rs:=[4]) xB zB ?_
    refine mB rfl (fun K hK=>?_) AllReady.nil
    (try go_simp)
    (try (refine hK _ _ ?_;clear hK K))
    refine wpAny_ready (rs:=[5]) xB zB ?_
    refine mB rfl (fun K hK=>?_) AllReady.nil
    (try go_simp)
    go_wp2_with (go_at_call 86;refine CK1.out.mono ?_;rintro e w2 ⟨rfl,hb2⟩;have N2:=AS (GX.below (nB _ _ _ _ _) (GX.drew (nB _ _ _ _ _) N1.out) hb2);clear hb2)
    (try (refine hK _ _ ?_;clear hK K))
    refine zA (i:=6) (v:=?_) rfl xB xB xB (fun _ _ _ h=>h) (Or.inl ⟨xB,?_⟩) ?_
    rotate_left
    ·intro w;go_simp;try (with_reducible rfl)
    rotate_left
    refine zA (i:=7) (v:=?_) rfl xB xB xB (fun _ _ _ h=>h) (Or.inl ⟨xB,?_⟩) ?_
    rotate_left
    ·intro w;go_simp;try (with_reducible rfl)
    rotate_left
    refine zA (i:=8) (v:=undef) rfl xB xB xB (fun _ _ _ h=>h) (Or.inr ⟨xB,rfl⟩) ?_
    refine zA (i:=9) (v:=undef) rfl xB xB xB (fun _ _ _ h=>h) (Or.inr ⟨xB,rfl⟩) ?_
    refine zA (i:=10) (v:=undef) rfl xB xB xB (fun _ _ _ h=>h) (Or.inr ⟨xB,rfl⟩) ?_
    refine zA (i:=11) (v:=undef) rfl xB xB xB (fun _ _ _ h=>h) (Or.inr ⟨xB,rfl⟩) ?_
    refine zA (i:=12) (v:=undef) rfl xB xB xB (fun _ _ _ h=>h) (Or.inr ⟨xB,rfl⟩) ?_
    refine zA (i:=13) (v:=undef) rfl xB xB xB (fun _ _ _ h=>h) (Or.inr ⟨xB,rfl⟩) ?_
    refine zA (i:=14) (v:=undef) rfl xB xB xB (fun _ _ _ h=>h) (Or.inr ⟨xB,rfl⟩) ?_
    refine zA (i:=15) (v:=undef) rfl xB xB xB (fun _ _ _ h=>h) (Or.inr ⟨xB,rfl⟩) ?_
    refine zA (i:=16) (v:=?_) rfl xB xB xB (fun _ _ _ h=>h) (Or.inl ⟨xB,?_⟩) ?_
    rotate_left
    ·intro w;go_simp;try (with_reducible rfl)
    rotate_left
    refine wpAny_done xB ?_ _
    go_simp
    go_wp2_with fail
    go_meet
    exact⟨rfl,N2.out⟩
   ·(try go_simp)
    (try (refine hK _ _ ?_;clear hK K))
    refine wpAny_ready (rs:=[3]) xB zB ?_
    refine mB rfl (fun K hK=>?_) AllReady.nil
    (try go_simp)
    (try (refine hK _ _ ?_;clear hK K))
    refine wpAny_ready (rs:=[5]) xB zB ?_
    refine mB rfl (fun K hK=>?_) AllReady.nil
    (try go_simp)
    go_wp2_with (go_at_call 86;refine CK1.out.mono ?_;rintro e w2 ⟨rfl,hb2⟩;have N2:=AS (GX.below (nB _ _ _ _ _) (GX.drew (nB _ _ _ _ _) N1.out) hb2);clear hb2)
    (try (refine hK _ _ ?_;clear hK K))
    refine zA (i:=6) (v:=?_) rfl xB xB xB (fun _ _ _ h=>h) (Or.inl ⟨xB,?_⟩) ?_
    rotate_left
    ·intro w;go_simp;try (with_reducible rfl)
    rotate_left
    refine zA (i:=7) (v:=?_) rfl xB xB xB (fun _ _ _ h=>h) (Or.inl ⟨xB,?_⟩) ?_
    rotate_left
    ·intro w;go_simp;try (with_reducible rfl)
    rotate_left
    refine zA (i:=8) (v:=undef) rfl xB xB xB (fun _ _ _ h=>h) (Or.inr ⟨xB,rfl⟩) ?_
    refine zA (i:=9) (v:=undef) rfl xB xB xB (fun _ _ _ h=>h) (Or.inr ⟨xB,rfl⟩) ?_
    refine zA (i:=10) (v:=undef) rfl xB xB xB (fun _ _ _ h=>h) (Or.inr ⟨xB,rfl⟩) ?_
    refine zA (i:=11) (v:=undef) rfl xB xB xB (fun _ _ _ h=>h) (Or.inr ⟨xB,rfl⟩) ?_
    refine zA (i:=12) (v:=undef) rfl xB xB xB (fun _ _ _ h=>h) (Or.inr ⟨xB,rfl⟩) ?_
    refine zA (i:=13) (v:=undef) rfl xB xB xB (fun _ _ _ h=>h) (Or.inr ⟨xB,rfl⟩) ?_
    refine zA (i:=14) (v:=undef) rfl xB xB xB (fun _ _ _ h=>h) (Or.inr ⟨xB,rfl⟩) ?_
    refine zA (i:=15) (v:=undef) rfl xB xB xB (fun _ _ _ h=>h) (Or.inr ⟨xB,rfl⟩) ?_
    refine zA (i:=16) (v:=?_) rfl xB xB xB (fun _ _ _ h=>h) (Or.inl ⟨xB,?_⟩) ?_
    rotate_left
    ·intro w;go_simp;try (with_reducible rfl)
    rotate_left
    refine wpAny_done xB ?_ _
    go_simp
    go_wp2_with fail
    go_meet
    exact⟨rfl,N2.out⟩
  case rest =>
   obtain⟨rfl,hcut⟩:=hcut
   have N2:=AS hcut
   clear hcut
   go_wp2
   go_ret
   rw[hr]
   exact HRet.none N2.out
 case pos =>
  have hd9:(ck != 0)=false:=by simp[q1]
  go_cut [26] (fun v26 wx=>v26=aA (!decide (t=c.nodes))/\GX (HomeK c h b_ bm bq) 2 K w [(g+1,(O #[V I d0,V I d1,V I d2] 74:Obj)),(g,(O #[V I k,V I f,V I t,V I b,V I qq,V I wh,aA wr,V I c0,aA oo,aA hh,V I dd] 47:Obj))] wx)
  case first =>
   refine wp_region_any xB ?_
   (try (change wpAny _ _ _ _ _ _ _ (World.drew _)))
   refine zA (i:=0) (v:=?_) rfl xB xB xB (fun _ _ _ h=>h) (Or.inl ⟨xB,?_⟩) ?_
   rotate_left
   ·intro w;go_simp;try (with_reducible rfl)
   rotate_left
   refine zA (i:=1) (v:=?_) rfl xB xB xB (fun _ _ _ h=>h) (Or.inl ⟨xB,?_⟩) ?_
   rotate_left
   ·intro w;go_simp;try (with_reducible rfl)
   rotate_left
   refine zA (i:=2) (v:=?_) rfl xB xB xB (fun _ _ _ h=>h) (Or.inl ⟨xB,?_⟩) ?_
   rotate_left
   ·intro w;go_simp;try (with_reducible rfl)
   rotate_left
   refine wpAny_ready (rs:=[3,4]) xB zB ?_
   refine mB rfl (fun K hK=>?_) (mB rfl (fun K hK=>?_) AllReady.nil)
   ·(try go_simp)
    (try (refine hK _ _ ?_;clear hK K))
    refine wpAny_ready (rs:=[4]) xB zB ?_
    refine mB rfl (fun K hK=>?_) AllReady.nil
    (try go_simp)
    (try (refine hK _ _ ?_;clear hK K))
    refine wpAny_ready (rs:=[5]) xB zB ?_
    refine mB rfl (fun K hK=>?_) AllReady.nil
    (try go_simp)
    go_wp2_with (go_at_call 86;refine CK1.out.mono ?_;rintro e w2 ⟨rfl,hb2⟩;have N2:=AS (GX.below (nB _ _ _ _ _) (GX.drew (nB _ _ _ _ _) N1.out) hb2);clear hb2)
    (try (refine hK _ _ ?_;clear hK K))
    have l2_:=cw (N2.out.at_ (g:=g) (ob:=O #[V I k,V I f,V I t,V I b,V I qq,V I wh,aA wr,V I c0,aA oo,aA hh,V I dd] 47) zB) 2 (v:=V I t)
    have nid_:=cw N2.out.blkH 0 (v:=V I c.nodes)
    refine zA (i:=6) (v:=?_) rfl xB xB xB (fun _ _ _ h=>h) (Or.inl ⟨xB,?_⟩) ?_
    rotate_left
    ·intro w;go_simp;try (with_reducible rfl)
    rotate_left
    refine zA (i:=7) (v:=?_) rfl xB xB xB (fun _ _ _ h=>h) (Or.inl ⟨xB,?_⟩) ?_
    rotate_left
    ·intro w;go_simp;try (with_reducible rfl)
    rotate_left
    refine zA (i:=8) (v:=?_) rfl xB xB xB (fun _ _ _ h=>h) (Or.inl ⟨xB,?_⟩) ?_
    rotate_left
    ·intro w;go_simp;try (with_reducible rfl)
    rotate_left
    refine zA (i:=10) (v:=?_) rfl xB xB xB (fun _ _ _ h=>h) (Or.inl ⟨xB,?_⟩) ?_
    rotate_left
    ·intro w;go_simp;try (with_reducible rfl)
    rotate_left
    refine zA (i:=11) (v:=?_) rfl xB xB xB (fun _ _ _ h=>h) (Or.inl ⟨xB,?_⟩) ?_
    rotate_left
    ·intro w;go_simp;try (with_reducible rfl)
    rotate_left
    refine zA (i:=12) (v:=?_) rfl xB xB xB (fun _ _ _ h=>h) (Or.inl ⟨xB,?_⟩) ?_
    rotate_left
    ·intro w;go_simp;try (with_reducible rfl)
    rotate_left
    refine zA (i:=13) (v:=?_) rfl xB xB xB (fun _ _ _ h=>h) (Or.inl ⟨xB,?_⟩) ?_
    rotate_left
    ·intro w;go_simp;try (with_reducible rfl)
    rotate_left
    refine wpAny_ready (rs:=[9,14]) xB zB ?_
    refine mB rfl (fun K hK=>?_) (mB rfl (fun K hK=>?_) AllReady.nil)
    ·(try go_simp)
     (try (refine hK _ _ ?_;clear hK K))
     refine wpAny_ready (rs:=[14]) xB zB ?_
     refine mB rfl (fun K hK=>?_) AllReady.nil
     (try go_simp)
     (try (refine hK _ _ ?_;clear hK K))
     refine zA (i:=15) (v:=?_) rfl xB xB xB (fun _ _ _ h=>h) (Or.inl ⟨xB,?_⟩) ?_
     rotate_left
     ·intro w;go_simp;try (with_reducible rfl)
     rotate_left
     refine zA (i:=16) (v:=?_) rfl xB xB xB (fun _ _ _ h=>h) (Or.inl ⟨xB,?_⟩) ?_
     rotate_left
     ·intro w;go_simp;try (with_reducible rfl)
     rotate_left
     refine wpAny_done xB ?_ _
     go_simp
     go_wp2_with fail
     go_meet
     refine⟨?_,N2.out⟩
     first
      | rfl
      | simp[go_sem]
    ·(try go_simp)
     (try (refine hK _ _ ?_;clear hK K))
     refine wpAny_ready (rs:=[9]) xB zB ?_
     refine mB rfl (fun K hK=>?_) AllReady.nil
     (try go_simp)
     (try (refine hK _ _ ?_;clear hK K))
     refine zA (i:=15) (v:=?_) rfl xB xB xB (fun _ _ _ h=>h) (Or.inl ⟨xB,?_⟩) ?_
     rotate_left
     ·intro w;go_simp;try (with_reducible rfl)
     rotate_left
     refine zA (i:=16) (v:=?_) rfl xB xB xB (fun _ _ _ h=>h) (Or.inl ⟨xB,?_⟩) ?_
     rotate_left
     ·intro w;go_simp;try (with_reducible rfl)
     rotate_left
     refine wpAny_done xB ?_ _
     go_simp
     go_wp2_with fail
     go_meet
     refine⟨?_,N2.out⟩
     first
      | rfl
      | simp[go_sem]
   ·(try go_simp)
    (try (refine hK _ _ ?_;clear hK K))
    refine wpAny_ready (rs:=[3]) xB zB ?_
    refine mB rfl (fun K hK=>?_) AllReady.nil
    (try go_simp)
    (try (refine hK _ _ ?_;clear hK K))
    refine wpAny_ready (rs:=[5]) xB zB ?_
    refine mB rfl (fun K hK=>?_) AllReady.nil
    (try go_simp)
    go_wp2_with (go_at_call 86;refine CK1.out.mono ?_;rintro e w2 ⟨rfl,hb2⟩;have N2:=AS (GX.below (nB _ _ _ _ _) (GX.drew (nB _ _ _ _ _) N1.out) hb2);clear hb2)
    (try (refine hK _ _ ?_;clear hK K))
    have l2_:=cw (N2.out.at_ (g:=g) (ob:=O #[V I k,V I f,V I t,V I b,V I qq,V I wh,aA wr,V I c0,aA oo,aA hh,V I dd] 47) zB) 2 (v:=V I t)
    have nid_:=cw N2.out.blkH 0 (v:=V I c.nodes)
    refine zA (i:=6) (v:=?_) rfl xB xB xB (fun _ _ _ h=>h) (Or.inl ⟨xB,?_⟩) ?_
    rotate_left
    ·intro w;go_simp;try (with_reducible rfl)
    rotate_left
    refine zA (i:=7) (v:=?_) rfl xB xB xB (fun _ _ _ h=>h) (Or.inl ⟨xB,?_⟩) ?_
    rotate_left
    ·intro w;go_simp;try (with_reducible rfl)
    rotate_left
    refine zA (i:=8) (v:=?_) rfl xB xB xB (fun _ _ _ h=>h) (Or.inl ⟨xB,?_⟩) ?_
    rotate_left
    ·intro w;go_simp;try (with_reducible rfl)
    rotate_left
    refine zA (i:=10) (v:=?_) rfl xB xB xB (fun _ _ _ h=>h) (Or.inl ⟨xB,?_⟩) ?_
    rotate_left
    ·intro w;go_simp;try (with_reducible rfl)
    rotate_left
    refine zA (i:=11) (v:=?_) rfl xB xB xB (fun _ _ _ h=>h) (Or.inl ⟨xB,?_⟩) ?_
    rotate_left
    ·intro w;go_simp;try (with_reducible rfl)
    rotate_left
    refine zA (i:=12) (v:=?_) rfl xB xB xB (fun _ _ _ h=>h) (Or.inl ⟨xB,?_⟩) ?_
    rotate_left
    ·intro w;go_simp;try (with_reducible rfl)
    rotate_left
    refine zA (i:=13) (v:=?_) rfl xB xB xB (fun _ _ _ h=>h) (Or.inl ⟨xB,?_⟩) ?_
    rotate_left
    ·intro w;go_simp;try (with_reducible rfl)
    rotate_left
    refine wpAny_ready (rs:=[9,14]) xB zB ?_
    refine mB rfl (fun K hK=>?_) (mB rfl (fun K hK=>?_) AllReady.nil)
    ·(try go_simp)
     (try (refine hK _ _ ?_;clear hK K))
     refine wpAny_ready (rs:=[14]) xB zB ?_
     refine mB rfl (fun K hK=>?_) AllReady.nil
     (try go_simp)
     (try (refine hK _ _ ?_;clear hK K))
     refine zA (i:=15) (v:=?_) rfl xB xB xB (fun _ _ _ h=>h) (Or.inl ⟨xB,?_⟩) ?_
     rotate_left
     ·intro w;go_simp;try (with_reducible rfl)
     rotate_left
     refine zA (i:=16) (v:=?_) rfl xB xB xB (fun _ _ _ h=>h) (Or.inl ⟨xB,?_⟩) ?_
     rotate_left
     ·intro w;go_simp;try (with_reducible rfl)
     rotate_left
     refine wpAny_done xB ?_ _
     go_simp
     go_wp2_with fail
     go_meet
     refine⟨?_,N2.out⟩
     first
      | rfl
      | simp[go_sem]
    ·(try go_simp)
     (try (refine hK _ _ ?_;clear hK K))
     refine wpAny_ready (rs:=[9]) xB zB ?_
     refine mB rfl (fun K hK=>?_) AllReady.nil
     (try go_simp)
     (try (refine hK _ _ ?_;clear hK K))
     refine zA (i:=15) (v:=?_) rfl xB xB xB (fun _ _ _ h=>h) (Or.inl ⟨xB,?_⟩) ?_
     rotate_left
     ·intro w;go_simp;try (with_reducible rfl)
     rotate_left
     refine zA (i:=16) (v:=?_) rfl xB xB xB (fun _ _ _ h=>h) (Or.inl ⟨xB,?_⟩) ?_
     rotate_left
     ·intro w;go_simp;try (with_reducible rfl)
     rotate_left
     refine wpAny_done xB ?_ _
     go_simp
     go_wp2_with fail
     go_meet
     refine⟨?_,N2.out⟩
     first
      | rfl
      | simp[go_sem]
  case rest =>
   obtain⟨rfl,hcut⟩:=hcut
   have N2:=AS hcut
   clear hcut KEEP N1 e0_ e1_ e2_ e3_ e4_ e5_ e6_ e7_ e8_ e9_ e10_ e11_ e12_ e13_ e14_ e15_ e16_ e17_ e18_ e19_
   by_cases q2:t=c.nodes
   case neg =>
    have hr:=HR.out.trans (if_pos (.inr q2))
    have hv2:(!decide (t=c.nodes))=true:=by simp[q2]
    rw[hv2]
    go_wp2
    go_ret
    rw[hr]
    exact HRet.none N2.out
   case pos =>
    have hr:=HR.out.trans (if_neg (by simp[q1,q2]))
    have hv2:(!decide (t=c.nodes))=false:=by simp[q2]
    rw[hv2]
    clear HR
    have HR:=AS hr
    clear hr hv2
    go_upto_region 3 with fail
    have m1:=fun w:cA=>run_makeMap (P:=dA) 195 w
    have hb0:=(heap_alloc wc (.map #[] 0)).1
    obtain⟨s1,k1,hr1,hi1⟩:=IM.empty.put hb0 under195 under3 1 (.func (.func 87) #[bA (M ⟨b_,0,U⟩)] #[])
    have hb1:=set_at hb0 (.map s1 k1)
    obtain⟨s2,k2,hr2,hi2⟩:=hi1.put hb1 under195 under3 2 (.func (.func 88) #[bA (M ⟨b_,0,U⟩)] #[])
    have hb2:=set_at hb1 (.map s2 k2)
    obtain⟨s3,k3,hr3,hi3⟩:=hi2.put hb2 under195 under3 3 (.func (.func 89) #[bA (M ⟨b_,0,U⟩)] #[])
    have hb3:=set_at hb2 (.map s3 k3)
    obtain⟨s4,k4,hr4,hi4⟩:=hi3.put hb3 under195 under3 5 (.func (.func 90) #[bA (M ⟨b_,0,U⟩)] #[])
    have hb4:=set_at hb3 (.map s4 k4)
    obtain⟨s5,k5,hr5,hi5⟩:=hi4.put hb4 under195 under3 7 (.func (.func 91) #[bA (M ⟨b_,0,U⟩)] #[])
    have hb5:=set_at hb4 (.map s5 k5)
    have LK:=AS (show ∀ W':cA,W'.heap[wc.heap.size]?=M (.map s5 k5)->_ from fun W' h=>hi5.look2 h under195 under3 (zeroF W') k)
    have N3:=AS (GX.below (nB _ _ _ _ _) N2.out (below_block (below_block (below_block (below_block (below_block (eA (fA wc.heap.size wc) (.map #[] 0)) (pA _) (.map s1 k1)) (pA _) (.map s2 k2)) (pA _) (.map s3 k3)) (pA _) (.map s4 k4)) (pA _) (.map s5 k5)))
    have HB:=AS hb5
    clear hb0 hb1 hb2 hb3 hb4 hb5 hi1 hi2 hi3 hi4 hi5
    go_upto_region 4 with fail
    clear hr1 hr2 hr3 hr4 hr5 m1
    generalize aB (aB (aB (aB (aB (wc.alloc (.map #[] 0)) wc.heap.size (.map s1 k1)) wc.heap.size (.map s2 k2)) wc.heap.size (.map s3 k3)) wc.heap.size (.map s4 k4)) wc.heap.size (.map s5 k5)=W4 at N3 HB ⊢
    have lk:=LK.out W4 HB.out
    clear LK HB N2
    have KEEP:=AS (show ∀ (h':S.Home) (bx:List (Nat×Obj)) x,GX (HomeK c h' b_ bm bq) 2 K w bx x->(g,(O #[V I k,V I f,V I t,V I b,V I qq,V I wh,aA wr,V I c0,aA oo,aA hh,V I dd] 47:Obj))∈bx->(g+1,(O #[V I d0,V I d1,V I d2] 74:Obj))∈bx->(x.cell? ⟨g,0,U⟩=M (V I k)/\x.cell? ⟨g,1,U⟩=M (V I f)/\x.cell? ⟨g,2,U⟩=M (V I t)/\x.cell? ⟨g,3,U⟩=M (V I b)/\x.cell? ⟨g,4,U⟩=M (V I qq)/\x.cell? ⟨g,5,U⟩=M (V I wh)/\x.cell? ⟨g,6,U⟩=M (aA wr)/\x.cell? ⟨g,7,U⟩=M (V I c0)/\x.cell? ⟨g,8,U⟩=M (aA oo)/\x.cell? ⟨g,9,U⟩=M (aA hh)/\x.cell? ⟨g,10,U⟩=M (V I dd)/\x.cell? ⟨g+1,0,U⟩=M (V I d0)/\x.cell? ⟨g+1,1,U⟩=M (V I d1)/\x.cell? ⟨g+1,2,U⟩=M (V I d2)) from fun h' bx x hx m0 m1=>by
     have h11:=hx.blkH
     have hb0:=hx.at_ m0
     have hb1:=hx.at_ m1
     exact⟨cw hb0 0,cw hb0 1,cw hb0 2,cw hb0 3,cw hb0 4,cw hb0 5,cw hb0 6,cw hb0 7,cw hb0 8,cw hb0 9,cw hb0 10,cw hb1 0,cw hb1 1,cw hb1 2⟩)
    have hS_:=KEEP.out _ _ _ N3.out zB zB
    have e0_:=hS_.1
    have e1_:=hS_.2.1
    have e2_:=hS_.2.2.1
    have e3_:=hS_.2.2.2.1
    have e4_:=hS_.2.2.2.2.1
    have e5_:=hS_.2.2.2.2.2.1
    have e6_:=hS_.2.2.2.2.2.2.1
    have e7_:=hS_.2.2.2.2.2.2.2.1
    have e8_:=hS_.2.2.2.2.2.2.2.2.1
    have e9_:=hS_.2.2.2.2.2.2.2.2.2.1
    have e10_:=hS_.2.2.2.2.2.2.2.2.2.2.1
    have e11_:=hS_.2.2.2.2.2.2.2.2.2.2.2.1
    have e12_:=hS_.2.2.2.2.2.2.2.2.2.2.2.2.1
    have e13_:=hS_.2.2.2.2.2.2.2.2.2.2.2.2.2
    clear hS_
    by_cases c1:k=1
    ·have hr:=HR.out.trans (if_pos c1)
     have lk':(Instr.lookup 195 (.map (M wc.heap.size)) (V I k) true).run dA W4=.ok (.tuple #[.func (.func 87) #[bA (M ⟨b_,0,U⟩)] #[],aA true]) W4:=by rw[lk];simp[fput,c1]
     have lk2:=lk'
     rw[c1] at lk2
     have CA:=AS (HRet.after N3.out (fun K1 hx=>homeCome_any hx ⟨1,f,c.nodes,b,qq,wh,wr,⟨c0,oo,hh,dd⟩⟩ ⟨d0,d1,d2⟩))
     simp only[letV,drwV] at CA
     have HRR:=AS hr
     clear lk hr
     go_wp2_with fail
     refine CA.out.mono ?_
     rintro e w7 ⟨hR,-⟩
     obtain⟨v,K7,rfl,r7⟩:=hR
     have F7:=AS (show HRet c _ _ b_ bm bq K w (.returned v) w7 from⟨v,K7,rfl,r7⟩)
     clear r7 CA lk' lk2
     go_wp2
     go_ret
     rw[HRR.out]
     have h7:=F7.out;revert h7;cases h.queue.current b <;> exact id
    by_cases c2:k=2
    ·have hr:=(HR.out.trans (if_neg c1)).trans (if_pos c2)
     have lk':(Instr.lookup 195 (.map (M wc.heap.size)) (V I k) true).run dA W4=.ok (.tuple #[.func (.func 88) #[bA (M ⟨b_,0,U⟩)] #[],aA true]) W4:=by rw[lk];simp[fput,c2]
     have lk2:=lk'
     rw[c2] at lk2
     have CA:=AS (HRet.after N3.out (fun K1 hx=>homeAsk_any hx ⟨2,f,c.nodes,b,qq,wh,wr,⟨c0,oo,hh,dd⟩⟩ ⟨d0,d1,d2⟩))
     simp only[letV,drwV] at CA
     have HRR:=AS hr
     clear lk hr
     go_wp2_with fail
     refine CA.out.mono ?_
     rintro e w7 ⟨hR,-⟩
     obtain⟨v,K7,rfl,r7⟩:=hR
     have F7:=AS (show HRet c _ _ b_ bm bq K w (.returned v) w7 from⟨v,K7,rfl,r7⟩)
     clear r7 CA lk' lk2
     go_wp2
     go_ret
     rw[HRR.out]
     exact F7.out
    by_cases c3:k=3
    ·have hr:=((HR.out.trans (if_neg c1)).trans (if_neg c2)).trans (if_pos c3)
     have lk':(Instr.lookup 195 (.map (M wc.heap.size)) (V I k) true).run dA W4=.ok (.tuple #[.func (.func 89) #[bA (M ⟨b_,0,U⟩)] #[],aA true]) W4:=by rw[lk];simp[fput,c3]
     have lk2:=lk'
     rw[c3] at lk2
     have CA:=AS (HRet.after N3.out (fun K1 hx=>homePersist_any hx QL.out ⟨3,f,c.nodes,b,qq,wh,wr,⟨c0,oo,hh,dd⟩⟩ ⟨d0,d1,d2⟩))
     simp only[letV,drwV] at CA
     have HRR:=AS hr
     clear lk hr
     go_wp2_with fail
     refine CA.out.mono ?_
     rintro e w7 ⟨hR,-⟩
     obtain⟨v,K7,rfl,r7⟩:=hR
     have F7:=AS (show HRet c _ _ b_ bm bq K w (.returned v) w7 from⟨v,K7,rfl,r7⟩)
     clear r7 CA lk' lk2
     go_wp2
     go_ret
     rw[HRR.out]
     exact F7.out
    by_cases c5:k=5
    ·have hr:=(((HR.out.trans (if_neg c1)).trans (if_neg c2)).trans (if_neg c3)).trans (if_pos c5)
     have lk':(Instr.lookup 195 (.map (M wc.heap.size)) (V I k) true).run dA W4=.ok (.tuple #[.func (.func 90) #[bA (M ⟨b_,0,U⟩)] #[],aA true]) W4:=by rw[lk];simp[fput,c5]
     have lk2:=lk'
     rw[c5] at lk2
     have CA:=AS (HRet.after N3.out (fun K1 hx=>homeDone_any hx ⟨5,f,c.nodes,b,qq,wh,wr,⟨c0,oo,hh,dd⟩⟩ ⟨d0,d1,d2⟩))
     simp only[letV,drwV] at CA
     have HRR:=AS hr
     clear lk hr
     go_wp2_with fail
     refine CA.out.mono ?_
     rintro e w7 ⟨hR,-⟩
     obtain⟨v,K7,rfl,r7⟩:=hR
     have F7:=AS (show HRet c _ _ b_ bm bq K w (.returned v) w7 from⟨v,K7,rfl,r7⟩)
     clear r7 CA lk' lk2
     go_wp2
     go_ret
     rw[HRR.out]
     exact F7.out
    by_cases c7:k=7
    ·have hr:=((((HR.out.trans (if_neg c1)).trans (if_neg c2)).trans (if_neg c3)).trans (if_neg c5)).trans (if_pos c7)
     have lk':(Instr.lookup 195 (.map (M wc.heap.size)) (V I k) true).run dA W4=.ok (.tuple #[.func (.func 91) #[bA (M ⟨b_,0,U⟩)] #[],aA true]) W4:=by rw[lk];simp[fput,c7]
     have lk2:=lk'
     rw[c7] at lk2
     have CA:=AS (HRet.after N3.out (fun K1 hx=>homeAck_any hx ⟨7,f,c.nodes,b,qq,wh,wr,⟨c0,oo,hh,dd⟩⟩ ⟨d0,d1,d2⟩))
     simp only[letV,drwV] at CA
     have HRR:=AS hr
     clear lk hr
     go_wp2_with fail
     refine CA.out.mono ?_
     rintro e w7 ⟨hR,-⟩
     obtain⟨v,K7,rfl,r7⟩:=hR
     have F7:=AS (show HRet c _ _ b_ bm bq K w (.returned v) w7 from⟨v,K7,rfl,r7⟩)
     clear r7 CA lk' lk2
     go_wp2
     go_ret
     rw[HRR.out]
     exact F7.out
    have hr:=(((((HR.out.trans (if_neg c1)).trans (if_neg c2)).trans (if_neg c3)).trans (if_neg c5)).trans (if_neg c7))
    have lk':(Instr.lookup 195 (.map (M wc.heap.size)) (V I k) true).run dA W4=.ok (.tuple #[.nilFunc,aA false]) W4:=by rw[lk];simp[fput,c1,c2,c3,c5,c7]
    clear lk
    go_wp2
    go_ret
    rw[hr]
    exact HRet.none N3.out
theorem getD_mem {α:Type} {xs:List α} {i:Nat} (d:α) (hi:i < xs.length):xs.getD i d∈xs:=by simp[List.getD,hi]
def CpAt (rs rs':List ARowR) (j b2 g2:Nat) (w wr:cA):Prop:=rs'.length=rs.length/\rs'.map (·.r)=rs.map (·.r)/\(∀ i,j≤i->rs'.getD i arowE.d=rs.getD i arowE.d)/\∀ i,i < j->QuOk (nw w) b2 g2 (rs'.getD i arowE.d).q (rs'.getD i arowE.d).r.queue wr
theorem arbCopy_any {a:Arb} {b:Nat} {F:Set_} {w:cA} (hA:ArbX a b F w) (hne:a.rows≠[]) (hql:∀ r∈a.rows,r.queue.length≤1000000):bB dA 77 #[bA (M ⟨b,0,U⟩)] w fun e w'=>∃ b',e=.returned (bA (M ⟨b',0,U⟩))/\ArbX a b' (nw w) w'/\Below w.heap.size w w':=by
 obtain⟨g,cap,rs,h⟩:=hA
 have hlen:=h.len
 have hn0:0 < rs.length:=by
  rw[hlen];exact List.length_pos_iff.2 hne
 have hn64:rs.length≤64:=by rw[hlen];exact h.2.2.2.2.2.2.2.2.1
 have HA:=AS h
 have RR:=AS (show RowE arowE w (M ⟨g,0,U⟩) rs from by obtain⟨A,c,e,hr,-⟩:=h.2.1.row;injection e with e1 e2 e3;rw[e1];exact hr)
 have HQL:=AS (show ∀ i,i < rs.length->(rs.getD i arowE.d).r.queue.length≤1000000 from fun i hi=>hql _ (by rw[<- h.2.2.1];exact List.mem_map_of_mem (getD_mem _ hi)))
 have CL:=AS (cloneR_any (c:=cap) (w:=w.drew) (A:=M ⟨g,0,U⟩) (xs:=rs) (fun i hi=>RR.out i hi) zB (by show _ * 128≤_;omega))
 have c0:=cw h.1 0 (v:=V I a.nodes)
 have c1:=cw h.1 1 (v:=J (M ⟨g,0,U⟩) rs.length cap)
 have KEEP:=AS (show ∀ x,Below w.heap.size w x->(x.cell? ⟨b,0,U⟩=M (V I a.nodes)/\x.cell? ⟨b,1,U⟩=M (J (M ⟨g,0,U⟩) rs.length cap)) from fun x hx=>⟨cw (kA HA.out.1 hx) 0,cw (kA HA.out.1 hx) 1⟩)
 have hbl:=h.lt
 have HLN:=AS hlen
 clear h hne hql hlen
 go_enter Tryz.func77,Tryz.ntmps77
 go_upto_region 1 with fail
 go_cut [3] (fun v3 wx=>∃ b2 g2 c2,v3=bA (M ⟨b2,0,U⟩)/\wx.heap[b2]?=M (O #[V I a.nodes,J (M ⟨g2,0,U⟩) rs.length c2] 172 (0,0))/\OwnE arowE (J (M ⟨g2,0,U⟩) rs.length c2) rs wx/\w.heap.size≤b2/\w.heap.size≤g2/\b2≠g2/\Below w.heap.size w wx)
 case first =>
  go_region_held3 (fun x=>x.cell? ⟨b,0,U⟩=M (V I a.nodes)/\x.cell? ⟨b,1,U⟩=M (J (M ⟨g,0,U⟩) rs.length cap)) ((refine KEEP.out _ ?_;(repeat (with_reducible first | exact fA _ _ | exact B3.out | apply eA | apply iA)))) ((first | (go_at_call 103;refine CL.out.mono ?_;rintro e w3 ⟨v,rfl,hO,hf,hb⟩;obtain⟨g2,c2,rfl,-⟩:=own_some hO hn0;have B3:=AS (show Below w.heap.size w w3 from(iA (fA _ _)).trans (hb.mono (pA _)));have O3:=AS (qA hO (hf g2 (by simp[foot_slice])));have hl3:=hO.lt g2 (by simp[foot_slice]);clear hO hf hb)))
  all_goals
   go_wp2_with fail
   go_meet
   have hs3:=B3.out.size
   exact⟨_,_,_,rfl,nA w3 _,O3.out.1.ks (pB (fun _=>False) (eA (fA _ _) _)) (fun _ _=>id),vB,O3.out.2,vB,eA B3.out _⟩
 case rest =>
  obtain⟨b2,g2,c2,rfl,hB2,hO2,hb2,hg2,hbg,hbe⟩:=hcut
  have B2:=AS hB2
  have O2:=AS hO2
  have E2:=AS hbe
  have d1:=cw hB2 1 (v:=J (M ⟨g2,0,U⟩) rs.length c2)
  have hc2:c2≤9223372036854775807:=by obtain⟨A,c,e,-,-,hm,-⟩:=hO2.row;injection e with e1 e2 e3;omega
  have hcr:rs.length≤c2:=by obtain⟨A,c,e,-,hm,-,-⟩:=hO2.row;injection e with e1 e2 e3;omega
  clear hB2 hO2 hbe KEEP CL c0 c1
  go_wp2_with fail
  go_loopw [4,21] (fun v4 v21 wr=>∃ (j:Nat) (rs':List ARowR),v21=V I j/\j≤rs.length/\Aside0 (CpAt rs rs' j b2 g2 w wr/\OwnE arowE (J (M ⟨g2,0,U⟩) rs'.length c2) rs' wr/\wr.heap[b2]?=M (O #[V I a.nodes,J (M ⟨g2,0,U⟩) rs.length c2] 172 (0,0))/\Below w.heap.size w wr)) (fun _ v21 _=>65 - (intOf v21).toNat)
  case atStart=>exact⟨0,rs,rfl,vB,⟨⟨rfl,rfl,fun _ _=>rfl,fun i hi=>absurd hi vB⟩,O2.out,B2.out,E2.out⟩⟩
  case round =>
   obtain⟨j,rs',rfl,hj,R⟩:=hrel
   have hl':=R.out.1.1
   have d1:=cw R.out.2.2.1 1 (v:=J (M ⟨g2,0,U⟩) rs.length c2)
   by_cases hc:j < rs.length
   ·have q0:(0:Int)≤(j:Int):=vB
    have q1:(j:Int) < (rs.length:Int):=vB
    have hj':j < rs'.length:=vB
    have hx':rs'.getD j arowE.d=rs.getD j arowE.d:=R.out.1.2.2.1 j (pA _)
    generalize hx:rs.getD j arowE.d=x at *
    obtain⟨⟨sq,⟨ab,an,aq⟩,on,en,kn,qu⟩,q,hh,hk⟩:=x
    obtain⟨QA,qc,hqe,hqr,hq1,hq2,hq3,hq4⟩:=HA.out.2.2.2.2.2.2.2.2.2 _ (hx ▸ getD_mem _ hc)
    simp only at hqe hqr hq1 hq2 hq3
    subst hqe
    have hql1:qu.length≤1000000:=by have:=HQL.out j hc;rw[hx] at this;exact this
    have OW:=AS (R.out.2.1.cell0 hj' hx')
    have e70:wr.cell? ⟨g2,j * 71+70,U⟩=M (J QA qu.length qc):=(own_cells OW.out hj' 70 yB).trans (arowC_q _)
    have z70:wr.frozen? ⟨g2,j * 71+70,U⟩=false:=own_frz OW.out _
    have hrow:RowE intE wr.drew QA qu:=by
     have h1:=RowE.ks hqr (pB (fun _=>False) R.out.2.2.2) (fun _ _=>id)
     exact fun i hi=>h1 i hi
    have CI:=AS (cloneI_any (c:=qc) (w:=wr.drew) hrow hq3 (by show _ * 8≤_;omega))
    have FIN:=AS (show ∀ (v:Value) (w3:cA),OwnE intE v qu w3->(∀ x∈foot v,wr.heap.size≤x)->Below wr.heap.size wr w3->(v.oneCell'=true)->∃ rs2,CpAt rs rs2 (j+1) b2 g2 w (w3.setCell ⟨g2,j * 71+70,U⟩ v)/\OwnE arowE (J (M ⟨g2,0,U⟩) rs2.length c2) rs2 (w3.setCell ⟨g2,j * 71+70,U⟩ v)/\(w3.setCell ⟨g2,j * 71+70,U⟩ v).heap[b2]?=M (O #[V I a.nodes,J (M ⟨g2,0,U⟩) rs.length c2] 172 (0,0))/\Below w.heap.size w (w3.setCell ⟨g2,j * 71+70,U⟩ v) from by
     intro v w3 hO hf hb hoc
     have hlt1:=eB R.out.2.2.1
     have hlt2:=R.out.2.1.lt g2 (by simp[foot_slice])
     have hk2:KS (fun x=>x=g2) wr (w3.setCell ⟨g2,j * 71+70,U⟩ v):=KS.set (F:=fun x=>x=g2) (pB _ hb) (.inl rfl) _ _
     refine⟨rs'.set j ⟨⟨sq,⟨ab,an,aq⟩,on,en,kn,qu⟩,v,hoc,hk⟩,⟨by simp[hl'],?_,fun i hi=>?_,fun i hi=>?_⟩,?_,hk2.at_ R.out.2.2.1 (by show ¬ b2=g2;exact hbg),(R.out.2.2.2.trans (hb.mono R.out.2.2.2.size)).setCell (p:=⟨_,_,U⟩) hg2 _⟩
     ·rw[<- R.out.1.2.1,List.map_set]
      refine List.ext_getElem? fun i=>?_
      rw[List.getElem?_set]
      by_cases e:j=i
      ·subst e
       rw[if_pos rfl,if_pos (by simpa using hj')]
       have hx2:=hx'
       rw[cB,dB hj',Option.getD_some] at hx2
       rw[List.getElem?_map,dB hj',hx2]
       rfl
      ·rw[if_neg e]
     ·rw[getD_set,if_neg vB]
      exact R.out.1.2.2.1 i vB
     ·rw[getD_set]
      by_cases e:j=i
      ·rw[if_pos ⟨e,hj'⟩]
       exact quOk_fresh hO (fun x hx=>by have:=hf x hx;have:=R.out.2.2.2.size;exact⟨by show _≤x;omega,vB,vB⟩) _ _
      ·rw[if_neg (fun q=>e q.1)]
       exact(R.out.1.2.2.2 i vB).keep hk2 (fun x hx hF=>⟨hF,fun h1 h2=>h2⟩)
     ·have h5:=(OW.out.ks (pB (fun _=>False) hb) (fun _ _=>id)).cell2 hj' 70 yB ⟨⟨sq,⟨ab,an,aq⟩,on,en,kn,qu⟩,v,hoc,hk⟩ v (set_q ⟨⟨sq,⟨ab,an,aq⟩,on,en,kn,qu⟩,J QA qu.length qc,hh,hk⟩ v hoc qu)
      rw[List.length_set]
      exact h5)
    clear hqr hq1 hq3 hq4 hrow hx hx'
    go_upto_region 5 with fail
    go_region_with (go_at_call 104;refine CI.out.mono ?_;rintro e w3 ⟨v,rfl,hO,hf,hb⟩;obtain⟨A3,c3,rfl,-⟩:=hO.row;have hb':=(show Below wr.heap.size wr w3 from(iA (fA _ _)).trans (hb.mono (pA _)));have F3:=AS (FIN.out _ w3 hO hf hb' rfl);have d3:w3.cell? ⟨b2,1,U⟩=M (J (M ⟨g2,0,U⟩) rs.length c2):=cw (kA R.out.2.2.1 hb') 1;have O3:=AS (OW.out.ks (pB (fun _=>False) hb') (fun _ _=>id));have e3:w3.cell? ⟨g2,j * 71+70,U⟩=M (J QA qu.length qc):=(own_cells O3.out hj' 70 yB).trans (arowC_q _);have z3:w3.frozen? ⟨g2,j * 71+70,U⟩=false:=own_frz O3.out _;clear hO hf hb hb')
    all_goals
     go_wp2
     go_roundw
     case rel =>
      obtain⟨rs2,k1,k2,k3,k4⟩:=F3.out
      exact⟨j+1,rs2,by go_num,vB,⟨k1,k2,k3,k4⟩⟩
     case measure=>simp[intOf];omega
   ·have hjn:j=rs.length:=vB
    subst hjn
    go_wp2
    go_ret
    refine⟨b2,rfl,⟨g2,c2,rs',?_,R.out.2.1,R.out.1.2.1.trans HA.out.2.2.1,hbg,hb2,hg2,HA.out.2.2.2.2.2.2.1,HA.out.2.2.2.2.2.2.2.1,by rw[<- HLN.out];exact hn64,fun p hp=>?_⟩,R.out.2.2.2⟩
    ·rw[hl'];exact R.out.2.2.1
    ·obtain⟨i,hi,rfl⟩:=List.getElem_of_mem hp
     have:=R.out.1.2.2.2 i vB
     simpa [List.getD,hi] using this
def HomeAt (c:Cfg) (h:S.Home) (b:Nat) (F:Set_) (w:cA):Prop:=∃ bm bq K,HomeK c h b bm bq K w/\∀ x,x < w.heap.size->K x≤2->F x
open Classical in
theorem home_mk {c:Cfg} {h:S.Home} {bm bq:Nat} {F1 F2 G:Set_} {w2:cA} (hM:MemAt h.mem bm F1 w2) (hQ:ArbX h.queue bq F2 w2) (hd:∀ x,F1 x->¬ F2 x) (h1:∀ x,F1 x->G x) (h2:∀ x,F2 x->G x) (hG:G w2.heap.size):HomeAt c h w2.heap.size G (w2.alloc (O (homeC c bm bq) 124)):=by
 have hb:=eA (fA w2.heap.size w2) (O (homeC c bm bq) 124)
 refine⟨bm,bq,fun x=>if x=w2.heap.size then 0 else if F1 x then 1 else if F2 x then 2 else 7,⟨nA _ _,if_pos rfl,hM.keep (pB (fun _=>False) hb) (fun x hx hF=>⟨?_,id⟩),hQ.keep (pB (fun _=>False) hb) (fun x hx hF=>⟨?_,id⟩)⟩,fun x hx hK=>?_⟩
 ·show(if x=w2.heap.size then 0 else if F1 x then 1 else if F2 x then 2 else 7)=1
  rw[if_neg vB,if_pos hF]
 ·show(if x=w2.heap.size then 0 else if F1 x then 1 else if F2 x then 2 else 7)=2
  rw[if_neg vB,if_neg (fun q=>hd x q hF),if_pos hF]
 ·by_cases q0:x=w2.heap.size
  ·rw[q0];exact hG
  ·by_cases q1:F1 x
   ·exact h1 x q1
   ·by_cases q2:F2 x
    ·exact h2 x q2
    ·simp only[if_neg q0,if_neg q1,if_neg q2] at hK
     exact absurd hK yB
theorem HomeAt.lt {c:Cfg} {h:S.Home} {b:Nat} {F:Set_} {w:cA} (hH:HomeAt c h b F w):b < w.heap.size:=by obtain⟨bm,bq,K,hK,-⟩:=hH;exact eB hK.1
theorem HomeAt.keep {c:Cfg} {h:S.Home} {b:Nat} {F F' G:Set_} {w w':cA} (hH:HomeAt c h b F w) (hk:KS G w w') (hs:∀ x,x < w.heap.size->F x->F' x/\¬ G x):HomeAt c h b F' w':=by
 obtain⟨bm,bq,K,hK,hF⟩:=hH
 have hsz:=hk.size
 refine⟨bm,bq,rec_ K w 7,nB c h b bm bq K _ G w w' hK hk (fun x hx h2=>⟨jB hx,(hs x hx (hF x hx h2)).2⟩),fun x hx h2=>?_⟩
 by_cases hl:x < w.heap.size
 ·rw[jB hl] at h2;exact(hs x hl (hF x hl h2)).1
 ·rw[rec_new vB] at h2;omega
theorem homeAll_any {c:Cfg} {h:S.Home} {b:Nat} {F:Set_} {w:cA} (hH:HomeAt c h b F w):bB dA 36 #[bA (M ⟨b,0,U⟩)] w (NewRow bunE h.mem w):=by
 obtain⟨bm,bq,K,hK,-⟩:=hH
 have M_:=AS (memAll_any hK.2.2.1)
 have c9:=cw hK.1 9 (v:=bA (M ⟨bm,0,U⟩))
 clear hK
 go_enter Tryz.func36,Tryz.ntmps36
 go_wp2_with fail
 refine M_.out.mono ?_
 rintro e w2 ⟨v,rfl,hO,hf,hb⟩
 obtain⟨A,cp,rfl,-⟩:=hO.row
 have X:=AS (qA hO (qA hf hb))
 clear hO hf hb
 go_wp2
 go_ret
 exact⟨_,rfl,X.out.1,X.out.2.1,X.out.2.2⟩
theorem homeCopy_any {c:Cfg} {h:S.Home} {b:Nat} {F:Set_} {w:cA} (hH:HomeAt c h b F w) (hne:h.queue.rows≠[]) (hql:∀ r∈h.queue.rows,r.queue.length≤1000000):bB dA 51 #[bA (M ⟨b,0,U⟩)] w fun e w'=>∃ b',e=.returned (bA (M ⟨b',0,U⟩))/\HomeAt c h b' (nw w) w'/\Below w.heap.size w w':=by
 obtain⟨bm,bq,K,hK,-⟩:=hH
 have MA:=AS (show ∀ W',Below w.heap.size w W'->_ from fun W' hb=>memCopy_any (hK.2.2.1.keep (pB (fun _=>False) hb) (fun x _ hF=>⟨hF,id⟩)))
 have QA:=AS (show ∀ W',Below w.heap.size w W'->_ from fun W' hb=>arbCopy_any (hK.2.2.2.keep (pB (fun _=>False) hb) (fun x _ hF=>⟨hF,id⟩)) hne hql)
 have KEEP:=AS (show ∀ x,Below w.heap.size w x->(x.cell? ⟨b,0,U⟩=M (V I c.nodes)/\x.cell? ⟨b,1,U⟩=M (V I c.blocks)/\x.cell? ⟨b,2,U⟩=M (V I c.tokens)/\x.cell? ⟨b,3,U⟩=M (V I c.sets)/\x.cell? ⟨b,4,U⟩=M (V I c.ways)/\x.cell? ⟨b,5,U⟩=M (V I c.cap)/\x.cell? ⟨b,6,U⟩=M (V I c.wait)/\x.cell? ⟨b,7,U⟩=M (V I c.tries)/\x.cell? ⟨b,8,U⟩=M (V I c.policy)/\x.cell? ⟨b,9,U⟩=M (bA (M ⟨bm,0,U⟩))/\x.cell? ⟨b,10,U⟩=M (bA (M ⟨bq,0,U⟩))) from fun x hx=>by have h11:=kA hK.1 hx;exact⟨cw h11 0,cw h11 1,cw h11 2,cw h11 3,cw h11 4,cw h11 5,cw h11 6,cw h11 7,cw h11 8,cw h11 9,cw h11 10⟩)
 obtain⟨e0_,e1_,e2_,e3_,e4_,e5_,e6_,e7_,e8_,e9_,e10_⟩:=KEEP.out w (fA _ _)
 clear hK hne hql
 go_enter Tryz.func51,Tryz.ntmps51
 go_upto_region 1 with fail
 go_region_held3 (fun x=>x.cell? ⟨b,0,U⟩=M (V I c.nodes)/\x.cell? ⟨b,1,U⟩=M (V I c.blocks)/\x.cell? ⟨b,2,U⟩=M (V I c.tokens)/\x.cell? ⟨b,3,U⟩=M (V I c.sets)/\x.cell? ⟨b,4,U⟩=M (V I c.ways)/\x.cell? ⟨b,5,U⟩=M (V I c.cap)/\x.cell? ⟨b,6,U⟩=M (V I c.wait)/\x.cell? ⟨b,7,U⟩=M (V I c.tries)/\x.cell? ⟨b,8,U⟩=M (V I c.policy)/\x.cell? ⟨b,9,U⟩=M (bA (M ⟨bm,0,U⟩))/\x.cell? ⟨b,10,U⟩=M (bA (M ⟨bq,0,U⟩))) ((refine KEEP.out _ ?_;(repeat (with_reducible first | exact fA _ _ | exact B2.out | exact B1.out | apply eA | apply iA)))) ((first | (go_at_call 76;refine(MA.out w.drew (iA (fA _ _))).mono ?_;rintro e w1 ⟨m1,rfl,hM,hb⟩;have B1:=AS (show Below w.heap.size w w1 from(iA (fA _ _)).trans (hb.mono (pA _)));have M1:=AS hM;clear hM hb) | (go_at_call 77;refine(QA.out _ B1.out).mono ?_;rintro e w2 ⟨q1,rfl,hQ,hb⟩;have hs1:=B1.out.size;have hs2:=hb.size;have B2:=AS (B1.out.trans (hb.mono hs1));have FN:=AS (home_mk (c:=c) (h:=h) (G:=nw w) (F1:=fun x=>w.heap.size≤x/\x < w1.heap.size) (F2:=nw w1) (M1.out.keep (pB (fun _=>False) hb) (fun x hx hF=>⟨⟨hF,hx⟩,id⟩)) hQ (fun x h1 h2=>by have h2':w1.heap.size≤x:=h2;omega) (fun x h1=>h1.1) (fun x h2=>by have h2':w1.heap.size≤x:=h2;show _≤x;omega) (by show _≤w2.heap.size;omega));clear hQ hb hs1 hs2) | (go_at_call 77;refine(QA.out w.drew (iA (fA _ _))).mono ?_;rintro e w1 ⟨q1,rfl,hQ,hb⟩;have B1:=AS (show Below w.heap.size w w1 from(iA (fA _ _)).trans (hb.mono (pA _)));have Q1:=AS hQ;clear hQ hb) | (go_at_call 76;refine(MA.out _ B1.out).mono ?_;rintro e w2 ⟨m1,rfl,hM,hb⟩;have hs1:=B1.out.size;have hs2:=hb.size;have B2:=AS (B1.out.trans (hb.mono hs1));have FN:=AS (home_mk (c:=c) (h:=h) (G:=nw w) (F1:=nw w1) (F2:=fun x=>w.heap.size≤x/\x < w1.heap.size) hM (Q1.out.keep (pB (fun _=>False) hb) (fun x hx hF=>⟨⟨hF,hx⟩,id⟩)) (fun x h1 h2=>by have h1':w1.heap.size≤x:=h1;omega) (fun x h1=>by have h1':w1.heap.size≤x:=h1;show _≤x;omega) (fun x h2=>h2.1) (by show _≤w2.heap.size;omega));clear hM hb hs1 hs2)))
 all_goals
  go_wp2
  go_ret
  exact⟨_,rfl,FN.out,eA B2.out _⟩
theorem homeNew_any (c:Cfg) (hc:c.check=0) (w:cA):bB dA 23 #[cfgV c] w fun e w'=>∃ b',e=.returned (.tuple #[bA (M ⟨b',0,U⟩),V I 0])/\HomeAt c (Home.new c) b' (nw w) w'/\Below w.heap.size w w':=by
 have CK:=AS (show ∀ W',bB dA 21 _ W' _ from fun W'=>config_any c W')
 rw[hc] at CK
 have BN:=AS (nA w (O #[V I c.nodes,V I c.blocks,V I c.tokens,V I c.sets,V I c.ways,V I c.cap,V I c.wait,V I c.tries,V I c.policy] 23))
 have B0:=AS (eA (fA w.heap.size w) (O #[V I c.nodes,V I c.blocks,V I c.tokens,V I c.sets,V I c.ways,V I c.cap,V I c.wait,V I c.tries,V I c.policy] 23))
 have MA':=AS (memNew_any c.blocks c.tokens)
 have QA':=AS (arbNew_any c.nodes c.blocks)
 have HN:=AS (show Home.new c=⟨uA (clamp c.blocks 0 64).toNat (full c.tokens 0),Arb.new c.nodes c.blocks⟩ from rfl)
 generalize hh:Home.new c=h at *
 obtain⟨hm,hq⟩:=h
 have e:=HN.out
 injection e with e1 e2
 rw[<- e1] at MA'
 rw[<- e2] at QA'
 clear e1 e2 HN hh
 simp only[cfgV] at CK ⊢
 obtain⟨e0_,e1_,e2_,e3_,e4_,e5_,e6_,e7_,e8_⟩:=(show(w.alloc (O #[V I c.nodes,V I c.blocks,V I c.tokens,V I c.sets,V I c.ways,V I c.cap,V I c.wait,V I c.tries,V I c.policy] 23)).cell? ⟨w.heap.size,0,U⟩=M (V I c.nodes)/\(w.alloc (O #[V I c.nodes,V I c.blocks,V I c.tokens,V I c.sets,V I c.ways,V I c.cap,V I c.wait,V I c.tries,V I c.policy] 23)).cell? ⟨w.heap.size,1,U⟩=M (V I c.blocks)/\(w.alloc (O #[V I c.nodes,V I c.blocks,V I c.tokens,V I c.sets,V I c.ways,V I c.cap,V I c.wait,V I c.tries,V I c.policy] 23)).cell? ⟨w.heap.size,2,U⟩=M (V I c.tokens)/\(w.alloc (O #[V I c.nodes,V I c.blocks,V I c.tokens,V I c.sets,V I c.ways,V I c.cap,V I c.wait,V I c.tries,V I c.policy] 23)).cell? ⟨w.heap.size,3,U⟩=M (V I c.sets)/\(w.alloc (O #[V I c.nodes,V I c.blocks,V I c.tokens,V I c.sets,V I c.ways,V I c.cap,V I c.wait,V I c.tries,V I c.policy] 23)).cell? ⟨w.heap.size,4,U⟩=M (V I c.ways)/\(w.alloc (O #[V I c.nodes,V I c.blocks,V I c.tokens,V I c.sets,V I c.ways,V I c.cap,V I c.wait,V I c.tries,V I c.policy] 23)).cell? ⟨w.heap.size,5,U⟩=M (V I c.cap)/\(w.alloc (O #[V I c.nodes,V I c.blocks,V I c.tokens,V I c.sets,V I c.ways,V I c.cap,V I c.wait,V I c.tries,V I c.policy] 23)).cell? ⟨w.heap.size,6,U⟩=M (V I c.wait)/\(w.alloc (O #[V I c.nodes,V I c.blocks,V I c.tokens,V I c.sets,V I c.ways,V I c.cap,V I c.wait,V I c.tries,V I c.policy] 23)).cell? ⟨w.heap.size,7,U⟩=M (V I c.tries)/\(w.alloc (O #[V I c.nodes,V I c.blocks,V I c.tokens,V I c.sets,V I c.ways,V I c.cap,V I c.wait,V I c.tries,V I c.policy] 23)).cell? ⟨w.heap.size,8,U⟩=M (V I c.policy) from⟨cw BN.out 0,cw BN.out 1,cw BN.out 2,cw BN.out 3,cw BN.out 4,cw BN.out 5,cw BN.out 6,cw BN.out 7,cw BN.out 8⟩)
 go_enter Tryz.func23,Tryz.ntmps23
 go_wp2_with fail
 generalize w.alloc (O #[V I c.nodes,V I c.blocks,V I c.tokens,V I c.sets,V I c.ways,V I c.cap,V I c.wait,V I c.tries,V I c.policy] 23)=W at BN B0 e0_ e1_ e2_ e3_ e4_ e5_ e6_ e7_ e8_ ⊢
 refine(CK.out W).mono ?_
 rintro e wB ⟨rfl,hb2⟩
 have hs0:=B0.out.size
 have BN2:=AS (kA BN.out hb2)
 have B2':=AS (B0.out.trans (hb2.mono hs0))
 clear hb2 CK e0_ e1_ e2_ e3_ e4_ e5_ e6_ e7_ e8_ BN B0 hs0
 have MA:=AS (show ∀ W',Below wB.heap.size wB W'->_ from fun W' _=>MA'.out W')
 have QA:=AS (show ∀ W',Below wB.heap.size wB W'->_ from fun W' _=>QA'.out W')
 have KEEP:=AS (show ∀ x,Below wB.heap.size wB x->(x.cell? ⟨w.heap.size,0,U⟩=M (V I c.nodes)/\x.cell? ⟨w.heap.size,1,U⟩=M (V I c.blocks)/\x.cell? ⟨w.heap.size,2,U⟩=M (V I c.tokens)/\x.cell? ⟨w.heap.size,3,U⟩=M (V I c.sets)/\x.cell? ⟨w.heap.size,4,U⟩=M (V I c.ways)/\x.cell? ⟨w.heap.size,5,U⟩=M (V I c.cap)/\x.cell? ⟨w.heap.size,6,U⟩=M (V I c.wait)/\x.cell? ⟨w.heap.size,7,U⟩=M (V I c.tries)/\x.cell? ⟨w.heap.size,8,U⟩=M (V I c.policy)) from fun x hx=>by have h11:=kA BN2.out hx;exact⟨cw h11 0,cw h11 1,cw h11 2,cw h11 3,cw h11 4,cw h11 5,cw h11 6,cw h11 7,cw h11 8⟩)
 obtain⟨e0_,e1_,e2_,e3_,e4_,e5_,e6_,e7_,e8_⟩:=KEEP.out wB (fA _ _)
 have hsz2:=B2'.out.size
 clear MA' QA'
 go_upto_region 3 with fail
 go_region_held3 (fun x=>x.cell? ⟨w.heap.size,0,U⟩=M (V I c.nodes)/\x.cell? ⟨w.heap.size,1,U⟩=M (V I c.blocks)/\x.cell? ⟨w.heap.size,2,U⟩=M (V I c.tokens)/\x.cell? ⟨w.heap.size,3,U⟩=M (V I c.sets)/\x.cell? ⟨w.heap.size,4,U⟩=M (V I c.ways)/\x.cell? ⟨w.heap.size,5,U⟩=M (V I c.cap)/\x.cell? ⟨w.heap.size,6,U⟩=M (V I c.wait)/\x.cell? ⟨w.heap.size,7,U⟩=M (V I c.tries)/\x.cell? ⟨w.heap.size,8,U⟩=M (V I c.policy)) ((refine KEEP.out _ ?_;(repeat (with_reducible first | exact fA _ _ | exact B2.out | exact B1.out | apply eA | apply iA)))) ((first | (go_at_call 46;refine(MA.out wB.drew (iA (fA _ _))).mono ?_;rintro e w1 ⟨m1,rfl,hM,hb⟩;have B1:=AS (show Below wB.heap.size wB w1 from(iA (fA _ _)).trans (hb.mono (pA _)));have M1:=AS hM;clear hM hb) | (go_at_call 47;refine(QA.out _ B1.out).mono ?_;rintro e w2 ⟨q1,rfl,hQ,hb⟩;have hs1:=B1.out.size;have hs2:=hb.size;have B2:=AS (B1.out.trans (hb.mono hs1));have FN:=AS (home_mk (c:=c) (h:=⟨hm,hq⟩) (G:=nw wB) (F1:=fun x=>wB.heap.size≤x/\x < w1.heap.size) (F2:=nw w1) (M1.out.keep (pB (fun _=>False) hb) (fun x hx hF=>⟨⟨hF,hx⟩,id⟩)) hQ (fun x h1 h2=>by have h2':w1.heap.size≤x:=h2;omega) (fun x h1=>h1.1) (fun x h2=>by have h2':w1.heap.size≤x:=h2;show _≤x;omega) (by show _≤w2.heap.size;omega));clear hQ hb hs1 hs2) | (go_at_call 47;refine(QA.out wB.drew (iA (fA _ _))).mono ?_;rintro e w1 ⟨q1,rfl,hQ,hb⟩;have B1:=AS (show Below wB.heap.size wB w1 from(iA (fA _ _)).trans (hb.mono (pA _)));have Q1:=AS hQ;clear hQ hb) | (go_at_call 46;refine(MA.out _ B1.out).mono ?_;rintro e w2 ⟨m1,rfl,hM,hb⟩;have hs1:=B1.out.size;have hs2:=hb.size;have B2:=AS (B1.out.trans (hb.mono hs1));have FN:=AS (home_mk (c:=c) (h:=⟨hm,hq⟩) (G:=nw wB) (F1:=nw w1) (F2:=fun x=>wB.heap.size≤x/\x < w1.heap.size) hM (Q1.out.keep (pB (fun _=>False) hb) (fun x hx hF=>⟨⟨hF,hx⟩,id⟩)) (fun x h1 h2=>by have h1':w1.heap.size≤x:=h1;omega) (fun x h1=>by have h1':w1.heap.size≤x:=h1;show _≤x;omega) (fun x h2=>h2.1) (by show _≤w2.heap.size;omega));clear hM hb hs1 hs2)))
 all_goals
  go_wp2
  refine yA (v:=.tuple #[bA (M ⟨w2.heap.size,0,U⟩),V I 0]) (by simp[results,Tryz.results23,go_sem]) rfl ?_
  exact⟨_,rfl,FN.out.keep (qB (fun _=>False) _) (fun x _ hx=>⟨by have hx':wB.heap.size≤x:=hx;show w.heap.size≤x;omega,id⟩),B2'.out.trans ((eA B2.out _).mono hsz2)⟩
end Go.Proofs.YtiebppkhaiofeaaGreat.K
