/- Part of the proof of TopStarver: what functions of the program do. -/
import Derived.Test.YtiebppkhaiofeaaGreatS14
import Derived.Test.YtiebppkhaiofeaaGreatS24
import Derived.Test.YtiebppkhaiofeaaGreatS22
set_option maxHeartbeats 4000000
set_option maxRecDepth 100000
set_option linter.unusedVariables false
set_option linter.unusedSimpArgs false
namespace Go.Proofs.YtiebppkhaiofeaaGreat.K
open Go.RowKit Go.Proofs.YtiebppkhaiofeaaGreatW.PrintWords Go.Proofs.YtiebppkhaiofeaaGreat.S
attribute [local go_sem] World.cell?_alloc_some
open Go.ChangeMaps Go.MapKept
theorem under198:Tryz.prog.underlying 198=some (.map 3 197):=by kernel_rfl
theorem zero197 (w:Go.World):(zeroValue 197).run Tryz.prog w=.ok .nilFunc w:=by kernel_rfl
theorem below_block {n:Nat} {w W:Go.World} (h:Below n w W) {g:Nat} (hg:n≤g) (o:Obj):Below n w (setBlock W g o) :=
 ⟨h.os,h.tape,h.output,by simpa [setBlock] using h.size,fun j hj=>by
  show(W.heap.setIfInBounds g o)[j]?=_
  rw[Array.getElem?_setIfInBounds_ne (by omega)]
  exact h.block j hj⟩
theorem nodeTake_aux {c:Cfg} {n:S.Node} {p:NPtr} {K:Nat->Nat} {w:Go.World} (hN:NodeK c n p K w) (hpq:p.q=w.heap.size+3) (h6:∀ x,x < w.heap.size->K x≠6) (l:Let) (d:Drw):Calls Tryz.prog 60 #[.pointer (some ⟨p.b,0,none⟩),letV l,drwV d] w (NRes (fun a b=>.agg #[a,b]) c (n.take c l d).1 (n.take c l d).2 p K w):=by
 obtain⟨d0,d1,d2⟩:=d
 obtain⟨k,f,t,b,qq,wh,wr,⟨c0,oo,hh,dd⟩⟩:=l
 have H6:=AS h6
 have e1:(w.alloc (.cells #[.int .i64 k,.int .i64 f,.int .i64 t,.int .i64 b,.int .i64 qq,.int .i64 wh,.bool wr,.int .i64 c0,.bool oo,.bool hh,.int .i64 dd] 47)).heap.size=w.heap.size+1:=by simp
 have e2:((w.alloc (.cells #[.int .i64 k,.int .i64 f,.int .i64 t,.int .i64 b,.int .i64 qq,.int .i64 wh,.bool wr,.int .i64 c0,.bool oo,.bool hh,.int .i64 dd] 47)).alloc (.cells #[.int .i64 d0,.int .i64 d1,.int .i64 d2] 74)).heap.size=w.heap.size+2:=by simp
 have e3:(((w.alloc (.cells #[.int .i64 k,.int .i64 f,.int .i64 t,.int .i64 b,.int .i64 qq,.int .i64 wh,.bool wr,.int .i64 c0,.bool oo,.bool hh,.int .i64 dd] 47)).alloc (.cells #[.int .i64 d0,.int .i64 d1,.int .i64 d2] 74)).alloc (.cells #[.slice none 0 0,.slice none 0 0] 138)).heap.size=w.heap.size+3:=by simp
 have N1:=AS (hN.start (W:=((((w.alloc (.cells #[.int .i64 k,.int .i64 f,.int .i64 t,.int .i64 b,.int .i64 qq,.int .i64 wh,.bool wr,.int .i64 c0,.bool oo,.bool hh,.int .i64 dd] 47)).alloc (.cells #[.int .i64 d0,.int .i64 d1,.int .i64 d2] 74)).alloc (.cells #[.slice none 0 0,.slice none 0 0] 138)).alloc (.cells #[.slice none 0 0,.slice none 0 0] 138))) (q:=w.heap.size+3) (below_alloc (below_alloc (below_alloc (below_alloc (Below.refl _ _) _) _) _) _) (by omega) (by rw[<- e3];exact blk_new _ _) [(w.heap.size+2,(.cells #[.slice none 0 0,.slice none 0 0] 138:Obj)),(w.heap.size+1,(.cells #[.int .i64 d0,.int .i64 d1,.int .i64 d2] 74:Obj)),(w.heap.size,(.cells #[.int .i64 k,.int .i64 f,.int .i64 t,.int .i64 b,.int .i64 qq,.int .i64 wh,.bool wr,.int .i64 c0,.bool oo,.bool hh,.int .i64 dd] 47:Obj))] (by
  intro x hx
  simp only[List.mem_cons,List.not_mem_nil,or_false] at hx
  rcases hx with rfl | rfl | rfl
  ·exact⟨by simp,by simp,blk_alloc (by rw[<- e2];exact blk_new _ _) _⟩
  ·exact⟨by simp,by simp,blk_alloc (blk_alloc (by rw[<- e1];exact blk_new _ _) _) _⟩
  ·exact⟨by simp,by simp,blk_alloc (blk_alloc (blk_alloc (blk_new _ _) _) _) _⟩) (by simp))
 rw[show({ p with q:=w.heap.size+3 }:NPtr)=p from by rw[<- hpq]] at N1
 have HR:=AS (show n.take c ⟨k,f,t,b,qq,wh,wr,⟨c0,oo,hh,dd⟩⟩ ⟨d0,d1,d2⟩=if Let.check c ⟨k,f,t,b,qq,wh,wr,⟨c0,oo,hh,dd⟩⟩≠0∨t≠n.id then (n,out0) else if k=1 then n.tokens c ⟨k,f,t,b,qq,wh,wr,⟨c0,oo,hh,dd⟩⟩ out0 else if k=2 then n.asks c ⟨k,f,t,b,qq,wh,wr,⟨c0,oo,hh,dd⟩⟩ ⟨d0,d1,d2⟩ out0 else if k=4 then n.activate c ⟨k,f,t,b,qq,wh,wr,⟨c0,oo,hh,dd⟩⟩ out0 else if k=6 then n.deactivate c ⟨k,f,t,b,qq,wh,wr,⟨c0,oo,hh,dd⟩⟩ out0 else (n,out0) from rfl)
 have CK:=AS (show ∀ W',Calls Tryz.prog 86 _ W' _ from fun W'=>lcheck_any c ⟨k,f,t,b,qq,wh,wr,⟨c0,oo,hh,dd⟩⟩ W')
 simp only[letV,cfgV] at CK
 generalize hck:Let.check c ⟨k,f,t,b,qq,wh,wr,⟨c0,oo,hh,dd⟩⟩=ck at *
 show Calls Tryz.prog 60 #[.pointer (some ⟨p.b,0,none⟩),.agg #[.int .i64 k,.int .i64 f,.int .i64 t,.int .i64 b,.int .i64 qq,.int .i64 wh,.bool wr,.int .i64 c0,.bool oo,.bool hh,.int .i64 dd],.agg #[.int .i64 d0,.int .i64 d1,.int .i64 d2]] w (NRes (fun a b=>.agg #[a,b]) c (n.take c ⟨k,f,t,b,qq,wh,wr,⟨c0,oo,hh,dd⟩⟩ ⟨d0,d1,d2⟩).1 (n.take c ⟨k,f,t,b,qq,wh,wr,⟨c0,oo,hh,dd⟩⟩ ⟨d0,d1,d2⟩).2 p K w)
 generalize n.take c ⟨k,f,t,b,qq,wh,wr,⟨c0,oo,hh,dd⟩⟩ ⟨d0,d1,d2⟩=R at *
 clear hN h6 e1 e2 e3
 have CE:=AS (show ∀ (n':S.Node) (W':Go.World),n'.id=n.id->W'.heap[p.b]?=some (.cells (nodeC c n' p) 133 (0,0))->(W'.cell? ⟨p.b,0,none⟩=some (.int .i64 c.nodes)/\W'.cell? ⟨p.b,1,none⟩=some (.int .i64 c.blocks)/\W'.cell? ⟨p.b,2,none⟩=some (.int .i64 c.tokens)/\W'.cell? ⟨p.b,3,none⟩=some (.int .i64 c.sets)/\W'.cell? ⟨p.b,4,none⟩=some (.int .i64 c.ways)/\W'.cell? ⟨p.b,5,none⟩=some (.int .i64 c.cap)/\W'.cell? ⟨p.b,6,none⟩=some (.int .i64 c.wait)/\W'.cell? ⟨p.b,7,none⟩=some (.int .i64 c.tries)/\W'.cell? ⟨p.b,8,none⟩=some (.int .i64 c.policy)/\W'.cell? ⟨p.b,9,none⟩=some (.int .i64 n.id)/\W'.cell? ⟨p.b,10,none⟩=some (.pointer (some ⟨p.bc,0,none⟩))/\W'.cell? ⟨p.b,11,none⟩=some (.pointer (some ⟨p.bt,0,none⟩))/\W'.cell? ⟨p.b,12,none⟩=some (.pointer (some ⟨p.bp,0,none⟩))/\W'.cell? ⟨p.b,13,none⟩=some (.map (some p.ba))/\W'.cell? ⟨p.b,14,none⟩=some (.map (some p.bo))) from fun n' W' hi h=>⟨cw h 0,cw h 1,cw h 2,cw h 3,cw h 4,cw h 5,cw h 6,cw h 7,cw h 8,by rw[<- hi];exact(cw h 9),cw h 10,cw h 11,cw h 12,cw h 13,cw h 14⟩)
 generalize hpb:p.b=pb at *
 go_enter Tryz.func60,Tryz.ntmps60
 go_upto_region 2 with fail
 generalize ((((w.alloc (.cells #[.int .i64 k,.int .i64 f,.int .i64 t,.int .i64 b,.int .i64 qq,.int .i64 wh,.bool wr,.int .i64 c0,.bool oo,.bool hh,.int .i64 dd] 47)).alloc (.cells #[.int .i64 d0,.int .i64 d1,.int .i64 d2] 74)).alloc (.cells #[.slice none 0 0,.slice none 0 0] 138)).alloc (.cells #[.slice none 0 0,.slice none 0 0] 138))=W at N1 ⊢
 generalize hg:w.heap.size=g at *
 have hmf:∀ (fn:Fn) (first cap:Array Value) (w:Go.World),(Instr.makeFunc fn first cap).run Tryz.prog w=.ok (.func fn first cap) w:=fun _ _ _ _=>rfl
 have KEEP:=AS (show ∀ (n':S.Node) (o':S.Out) (bx:List (Nat×Obj)) x,NX c n' o' p K w bx x->n'.id=n.id->(g,(.cells #[.int .i64 k,.int .i64 f,.int .i64 t,.int .i64 b,.int .i64 qq,.int .i64 wh,.bool wr,.int .i64 c0,.bool oo,.bool hh,.int .i64 dd] 47:Obj))∈bx->(x.cell? ⟨g,0,none⟩=some (.int .i64 k)/\x.cell? ⟨g,1,none⟩=some (.int .i64 f)/\x.cell? ⟨g,2,none⟩=some (.int .i64 t)/\x.cell? ⟨g,3,none⟩=some (.int .i64 b)/\x.cell? ⟨g,4,none⟩=some (.int .i64 qq)/\x.cell? ⟨g,5,none⟩=some (.int .i64 wh)/\x.cell? ⟨g,6,none⟩=some (.bool wr)/\x.cell? ⟨g,7,none⟩=some (.int .i64 c0)/\x.cell? ⟨g,8,none⟩=some (.bool oo)/\x.cell? ⟨g,9,none⟩=some (.bool hh)/\x.cell? ⟨g,10,none⟩=some (.int .i64 dd)/\x.cell? ⟨pb,0,none⟩=some (.int .i64 c.nodes)/\x.cell? ⟨pb,1,none⟩=some (.int .i64 c.blocks)/\x.cell? ⟨pb,2,none⟩=some (.int .i64 c.tokens)/\x.cell? ⟨pb,3,none⟩=some (.int .i64 c.sets)/\x.cell? ⟨pb,4,none⟩=some (.int .i64 c.ways)/\x.cell? ⟨pb,5,none⟩=some (.int .i64 c.cap)/\x.cell? ⟨pb,6,none⟩=some (.int .i64 c.wait)/\x.cell? ⟨pb,7,none⟩=some (.int .i64 c.tries)/\x.cell? ⟨pb,8,none⟩=some (.int .i64 c.policy)/\x.cell? ⟨pb,9,none⟩=some (.int .i64 n.id)) from fun n' o' bx x hx hid m0=>by
  have hce:=(show _ from by have h11:=hx.node;rw[hpb] at h11;exact CE.out n' _ hid h11)
  have hb0:=hx.at_ m0
  exact⟨cw hb0 0,cw hb0 1,cw hb0 2,cw hb0 3,cw hb0 4,cw hb0 5,cw hb0 6,cw hb0 7,cw hb0 8,cw hb0 9,cw hb0 10,hce.1,hce.2.1,hce.2.2.1,hce.2.2.2.1,hce.2.2.2.2.1,hce.2.2.2.2.2.1,hce.2.2.2.2.2.2.1,hce.2.2.2.2.2.2.2.1,hce.2.2.2.2.2.2.2.2.1,hce.2.2.2.2.2.2.2.2.2.1⟩)
 have hS_:=KEEP.out _ _ _ _ N1.out rfl (by simp)
 have e0_:=hS_.1
 have e1_:=hS_.2.1
 have e2_:=hS_.2.2.1
 have e3_:=hS_.2.2.2.1
 have e4_:=hS_.2.2.2.2.1
 have e5_:=hS_.2.2.2.2.2.1
 have e6_:=hS_.2.2.2.2.2.2.1
 have e7_:=hS_.2.2.2.2.2.2.2.1
 have e8_:=hS_.2.2.2.2.2.2.2.2.1
 have e9_:=hS_.2.2.2.2.2.2.2.2.2.1
 have e10_:=hS_.2.2.2.2.2.2.2.2.2.2.1
 have e11_:=hS_.2.2.2.2.2.2.2.2.2.2.2.1
 have e12_:=hS_.2.2.2.2.2.2.2.2.2.2.2.2.1
 have e13_:=hS_.2.2.2.2.2.2.2.2.2.2.2.2.2.1
 have e14_:=hS_.2.2.2.2.2.2.2.2.2.2.2.2.2.2.1
 have e15_:=hS_.2.2.2.2.2.2.2.2.2.2.2.2.2.2.2.1
 have e16_:=hS_.2.2.2.2.2.2.2.2.2.2.2.2.2.2.2.2.1
 have e17_:=hS_.2.2.2.2.2.2.2.2.2.2.2.2.2.2.2.2.2.1
 have e18_:=hS_.2.2.2.2.2.2.2.2.2.2.2.2.2.2.2.2.2.2.1
 have e19_:=hS_.2.2.2.2.2.2.2.2.2.2.2.2.2.2.2.2.2.2.2.1
 have e20_:=hS_.2.2.2.2.2.2.2.2.2.2.2.2.2.2.2.2.2.2.2.2
 clear hS_
 have CK1:=AS (CK.out W.drew)
 by_cases q1:ck=0
 case neg =>
  have hr:=HR.out.trans (if_pos (.inl q1))
  have hd:(ck == 0)=false:=by simp[q1]
  have hd2:(ck != 0)=true:=by simp[q1]
  have hd3:decide (ck=0)=false:=by simp[q1]
  go_cut [26] (fun v26 wx=>v26=.bool true/\NX c n out0 p K w [(g+2,(.cells #[.slice none 0 0,.slice none 0 0] 138:Obj)),(g+1,(.cells #[.int .i64 d0,.int .i64 d1,.int .i64 d2] 74:Obj)),(g,(.cells #[.int .i64 k,.int .i64 f,.int .i64 t,.int .i64 b,.int .i64 qq,.int .i64 wh,.bool wr,.int .i64 c0,.bool oo,.bool hh,.int .i64 dd] 47:Obj))] wx)
  case first =>
   refine wp_region_any (by kernel_rfl) ?_
   (try (change wpAny _ _ _ _ _ _ _ (World.drew _)))
   refine wpAny_take (i:=0) (v:=?_) rfl (by kernel_rfl) (by kernel_rfl) (by kernel_rfl) (fun _ _ _ h=>h) (Or.inl ⟨by kernel_rfl,?_⟩) ?_
   rotate_left
   ·intro w;go_simp;try (with_reducible rfl)
   rotate_left
   refine wpAny_take (i:=1) (v:=?_) rfl (by kernel_rfl) (by kernel_rfl) (by kernel_rfl) (fun _ _ _ h=>h) (Or.inl ⟨by kernel_rfl,?_⟩) ?_
   rotate_left
   ·intro w;go_simp;try (with_reducible rfl)
   rotate_left
   refine wpAny_take (i:=2) (v:=?_) rfl (by kernel_rfl) (by kernel_rfl) (by kernel_rfl) (fun _ _ _ h=>h) (Or.inl ⟨by kernel_rfl,?_⟩) ?_
   rotate_left
   ·intro w;go_simp;try (with_reducible rfl)
   rotate_left
   refine wpAny_ready (rs:=[3,4]) (by kernel_rfl) (by simp) ?_
   refine AllReady.cons rfl (fun K hK=>?_) (AllReady.cons rfl (fun K hK=>?_) AllReady.nil)
   ·(try go_simp)
    (try (refine hK _ _ ?_;clear hK K))
    refine wpAny_ready (rs:=[4]) (by kernel_rfl) (by simp) ?_
    refine AllReady.cons rfl (fun K hK=>?_) AllReady.nil
    (try go_simp)
    (try (refine hK _ _ ?_;clear hK K))
    refine wpAny_ready (rs:=[5]) (by kernel_rfl) (by simp) ?_
    refine AllReady.cons rfl (fun K hK=>?_) AllReady.nil
    (try go_simp)
    go_wp2_with (go_at_call 86;refine CK1.out.mono ?_;rintro e w2 ⟨rfl,hb2⟩;have N2:=AS (N1.out.drew.below hb2);clear hb2)
    (try (refine hK _ _ ?_;clear hK K))
    refine wpAny_take (i:=6) (v:=?_) rfl (by kernel_rfl) (by kernel_rfl) (by kernel_rfl) (fun _ _ _ h=>h) (Or.inl ⟨by kernel_rfl,?_⟩) ?_
    rotate_left
    ·intro w;go_simp;try (with_reducible rfl)
    rotate_left
    refine wpAny_take (i:=7) (v:=?_) rfl (by kernel_rfl) (by kernel_rfl) (by kernel_rfl) (fun _ _ _ h=>h) (Or.inl ⟨by kernel_rfl,?_⟩) ?_
    rotate_left
    ·intro w;go_simp;try (with_reducible rfl)
    rotate_left
    refine wpAny_take (i:=8) (v:=undef) rfl (by kernel_rfl) (by kernel_rfl) (by kernel_rfl) (fun _ _ _ h=>h) (Or.inr ⟨by kernel_rfl,rfl⟩) ?_
    refine wpAny_take (i:=9) (v:=undef) rfl (by kernel_rfl) (by kernel_rfl) (by kernel_rfl) (fun _ _ _ h=>h) (Or.inr ⟨by kernel_rfl,rfl⟩) ?_
    refine wpAny_take (i:=10) (v:=undef) rfl (by kernel_rfl) (by kernel_rfl) (by kernel_rfl) (fun _ _ _ h=>h) (Or.inr ⟨by kernel_rfl,rfl⟩) ?_
    refine wpAny_take (i:=11) (v:=undef) rfl (by kernel_rfl) (by kernel_rfl) (by kernel_rfl) (fun _ _ _ h=>h) (Or.inr ⟨by kernel_rfl,rfl⟩) ?_
    refine wpAny_take (i:=12) (v:=undef) rfl (by kernel_rfl) (by kernel_rfl) (by kernel_rfl) (fun _ _ _ h=>h) (Or.inr ⟨by kernel_rfl,rfl⟩) ?_
    refine wpAny_take (i:=13) (v:=undef) rfl (by kernel_rfl) (by kernel_rfl) (by kernel_rfl) (fun _ _ _ h=>h) (Or.inr ⟨by kernel_rfl,rfl⟩) ?_
    refine wpAny_take (i:=14) (v:=undef) rfl (by kernel_rfl) (by kernel_rfl) (by kernel_rfl) (fun _ _ _ h=>h) (Or.inr ⟨by kernel_rfl,rfl⟩) ?_
    refine wpAny_take (i:=15) (v:=?_) rfl (by kernel_rfl) (by kernel_rfl) (by kernel_rfl) (fun _ _ _ h=>h) (Or.inl ⟨by kernel_rfl,?_⟩) ?_
    rotate_left
    ·intro w;go_simp;try (with_reducible rfl)
    rotate_left
    refine wpAny_done (by kernel_rfl) ?_ _
    go_simp
    go_wp2_with fail
    go_meet
    exact⟨rfl,N2.out⟩
   ·(try go_simp)
    (try (refine hK _ _ ?_;clear hK K))
    refine wpAny_ready (rs:=[3]) (by kernel_rfl) (by simp) ?_
    refine AllReady.cons rfl (fun K hK=>?_) AllReady.nil
    (try go_simp)
    (try (refine hK _ _ ?_;clear hK K))
    refine wpAny_ready (rs:=[5]) (by kernel_rfl) (by simp) ?_
    refine AllReady.cons rfl (fun K hK=>?_) AllReady.nil
    (try go_simp)
    go_wp2_with (go_at_call 86;refine CK1.out.mono ?_;rintro e w2 ⟨rfl,hb2⟩;have N2:=AS (N1.out.drew.below hb2);clear hb2)
    (try (refine hK _ _ ?_;clear hK K))
    refine wpAny_take (i:=6) (v:=?_) rfl (by kernel_rfl) (by kernel_rfl) (by kernel_rfl) (fun _ _ _ h=>h) (Or.inl ⟨by kernel_rfl,?_⟩) ?_
    rotate_left
    ·intro w;go_simp;try (with_reducible rfl)
    rotate_left
    refine wpAny_take (i:=7) (v:=?_) rfl (by kernel_rfl) (by kernel_rfl) (by kernel_rfl) (fun _ _ _ h=>h) (Or.inl ⟨by kernel_rfl,?_⟩) ?_
    rotate_left
    ·intro w;go_simp;try (with_reducible rfl)
    rotate_left
    refine wpAny_take (i:=8) (v:=undef) rfl (by kernel_rfl) (by kernel_rfl) (by kernel_rfl) (fun _ _ _ h=>h) (Or.inr ⟨by kernel_rfl,rfl⟩) ?_
    refine wpAny_take (i:=9) (v:=undef) rfl (by kernel_rfl) (by kernel_rfl) (by kernel_rfl) (fun _ _ _ h=>h) (Or.inr ⟨by kernel_rfl,rfl⟩) ?_
    refine wpAny_take (i:=10) (v:=undef) rfl (by kernel_rfl) (by kernel_rfl) (by kernel_rfl) (fun _ _ _ h=>h) (Or.inr ⟨by kernel_rfl,rfl⟩) ?_
    refine wpAny_take (i:=11) (v:=undef) rfl (by kernel_rfl) (by kernel_rfl) (by kernel_rfl) (fun _ _ _ h=>h) (Or.inr ⟨by kernel_rfl,rfl⟩) ?_
    refine wpAny_take (i:=12) (v:=undef) rfl (by kernel_rfl) (by kernel_rfl) (by kernel_rfl) (fun _ _ _ h=>h) (Or.inr ⟨by kernel_rfl,rfl⟩) ?_
    refine wpAny_take (i:=13) (v:=undef) rfl (by kernel_rfl) (by kernel_rfl) (by kernel_rfl) (fun _ _ _ h=>h) (Or.inr ⟨by kernel_rfl,rfl⟩) ?_
    refine wpAny_take (i:=14) (v:=undef) rfl (by kernel_rfl) (by kernel_rfl) (by kernel_rfl) (fun _ _ _ h=>h) (Or.inr ⟨by kernel_rfl,rfl⟩) ?_
    refine wpAny_take (i:=15) (v:=?_) rfl (by kernel_rfl) (by kernel_rfl) (by kernel_rfl) (fun _ _ _ h=>h) (Or.inl ⟨by kernel_rfl,?_⟩) ?_
    rotate_left
    ·intro w;go_simp;try (with_reducible rfl)
    rotate_left
    refine wpAny_done (by kernel_rfl) ?_ _
    go_simp
    go_wp2_with fail
    go_meet
    exact⟨rfl,N2.out⟩
  case rest =>
   obtain⟨rfl,hcut⟩:=hcut
   have N2:=AS hcut
   clear hcut KEEP N1 e0_ e1_ e2_ e3_ e4_ e5_ e6_ e7_ e8_ e9_ e10_ e11_ e12_ e13_ e14_ e15_ e16_ e17_ e18_ e19_ e20_
   obtain⟨A1,n1,c1,A2,n2,c2,hq_⟩:=N2.out.outs
   have HQ:=AS hq_
   have HQ2:=AS (show wc.heap[g+3]?=some (.cells #[.slice A1 n1 c1,.slice A2 n2 c2] 138 (0,0)) from by rw[<- hpq];exact hq_)
   have q0_:=cw HQ2.out 0 (v:=.slice A1 n1 c1)
   have q1_:=cw HQ2.out 1 (v:=.slice A2 n2 c2)
   have RB:=AS (N2.out.at_ (g:=g+2) (ob:=.cells #[.slice none 0 0,.slice none 0 0] 138) (by simp))
   have r0_:=cw RB.out 0 (v:=.slice none 0 0)
   have r1_:=cw RB.out 1 (v:=.slice none 0 0)
   have rz0_:=blk_frozen RB.out 0
   have rz1_:=blk_frozen RB.out 1
   clear hq_
   go_wp2
   refine bodyPost_ret (v:=.agg #[.slice A1 n1 c1,.slice A2 n2 c2]) (by simp[results,Tryz.results60,go_sem,r0_,r1_]) rfl ?_
   (try rw[hr])
   exact NX.fin (v:=fun a b=>.agg #[a,b]) (r:=g+2) (ob:=.cells #[.slice none 0 0,.slice none 0 0] 138) N2.out (by simp) (fun x hx=>H6.out x (by rw[<- hg];exact hx)) HQ.out (by repeat (with_reducible first | exact KS.refl _ _ | apply KS.drew | apply KS.set1))
 case pos =>
  have hd9:(ck != 0)=false:=by simp[q1]
  have hv:decide (t≠n.id) = !decide (t=n.id):=by simp
  go_cut [26] (fun v26 wx=>v26=.bool (!decide (t=n.id))/\NX c n out0 p K w [(g+2,(.cells #[.slice none 0 0,.slice none 0 0] 138:Obj)),(g+1,(.cells #[.int .i64 d0,.int .i64 d1,.int .i64 d2] 74:Obj)),(g,(.cells #[.int .i64 k,.int .i64 f,.int .i64 t,.int .i64 b,.int .i64 qq,.int .i64 wh,.bool wr,.int .i64 c0,.bool oo,.bool hh,.int .i64 dd] 47:Obj))] wx)
  case first =>
   refine wp_region_any (by kernel_rfl) ?_
   (try (change wpAny _ _ _ _ _ _ _ (World.drew _)))
   refine wpAny_take (i:=0) (v:=?_) rfl (by kernel_rfl) (by kernel_rfl) (by kernel_rfl) (fun _ _ _ h=>h) (Or.inl ⟨by kernel_rfl,?_⟩) ?_
   rotate_left
   ·intro w;go_simp;try (with_reducible rfl)
   rotate_left
   refine wpAny_take (i:=1) (v:=?_) rfl (by kernel_rfl) (by kernel_rfl) (by kernel_rfl) (fun _ _ _ h=>h) (Or.inl ⟨by kernel_rfl,?_⟩) ?_
   rotate_left
   ·intro w;go_simp;try (with_reducible rfl)
   rotate_left
   refine wpAny_take (i:=2) (v:=?_) rfl (by kernel_rfl) (by kernel_rfl) (by kernel_rfl) (fun _ _ _ h=>h) (Or.inl ⟨by kernel_rfl,?_⟩) ?_
   rotate_left
   ·intro w;go_simp;try (with_reducible rfl)
   rotate_left
   refine wpAny_ready (rs:=[3,4]) (by kernel_rfl) (by simp) ?_
   refine AllReady.cons rfl (fun K hK=>?_) (AllReady.cons rfl (fun K hK=>?_) AllReady.nil)
   ·(try go_simp)
    (try (refine hK _ _ ?_;clear hK K))
    refine wpAny_ready (rs:=[4]) (by kernel_rfl) (by simp) ?_
    refine AllReady.cons rfl (fun K hK=>?_) AllReady.nil
    (try go_simp)
    (try (refine hK _ _ ?_;clear hK K))
    refine wpAny_ready (rs:=[5]) (by kernel_rfl) (by simp) ?_
    refine AllReady.cons rfl (fun K hK=>?_) AllReady.nil
    (try go_simp)
    go_wp2_with (go_at_call 86;refine CK1.out.mono ?_;rintro e w2 ⟨rfl,hb2⟩;have N2:=AS (N1.out.drew.below hb2);clear hb2)
    (try (refine hK _ _ ?_;clear hK K))
    have l2_:=cw (N2.out.at_ (g:=g) (ob:=.cells #[.int .i64 k,.int .i64 f,.int .i64 t,.int .i64 b,.int .i64 qq,.int .i64 wh,.bool wr,.int .i64 c0,.bool oo,.bool hh,.int .i64 dd] 47) (by simp)) 2 (v:=.int .i64 t)
    have nid_:=(show w2.cell? ⟨pb,9,none⟩=some (.int .i64 n.id) from by have h11:=N2.out.node;rw[hpb] at h11;exact(CE.out n _ rfl h11).2.2.2.2.2.2.2.2.2.1)
    refine wpAny_take (i:=6) (v:=?_) rfl (by kernel_rfl) (by kernel_rfl) (by kernel_rfl) (fun _ _ _ h=>h) (Or.inl ⟨by kernel_rfl,?_⟩) ?_
    rotate_left
    ·intro w;go_simp;try (with_reducible rfl)
    rotate_left
    refine wpAny_take (i:=7) (v:=?_) rfl (by kernel_rfl) (by kernel_rfl) (by kernel_rfl) (fun _ _ _ h=>h) (Or.inl ⟨by kernel_rfl,?_⟩) ?_
    rotate_left
    ·intro w;go_simp;try (with_reducible rfl)
    rotate_left
    refine wpAny_take (i:=8) (v:=?_) rfl (by kernel_rfl) (by kernel_rfl) (by kernel_rfl) (fun _ _ _ h=>h) (Or.inl ⟨by kernel_rfl,?_⟩) ?_
    rotate_left
    ·intro w;go_simp;try (with_reducible rfl)
    rotate_left
    refine wpAny_take (i:=10) (v:=?_) rfl (by kernel_rfl) (by kernel_rfl) (by kernel_rfl) (fun _ _ _ h=>h) (Or.inl ⟨by kernel_rfl,?_⟩) ?_
    rotate_left
    ·intro w;go_simp;try (with_reducible rfl)
    rotate_left
    refine wpAny_take (i:=11) (v:=?_) rfl (by kernel_rfl) (by kernel_rfl) (by kernel_rfl) (fun _ _ _ h=>h) (Or.inl ⟨by kernel_rfl,?_⟩) ?_
    rotate_left
    ·intro w;go_simp;try (with_reducible rfl)
    rotate_left
    refine wpAny_take (i:=12) (v:=?_) rfl (by kernel_rfl) (by kernel_rfl) (by kernel_rfl) (fun _ _ _ h=>h) (Or.inl ⟨by kernel_rfl,?_⟩) ?_
    rotate_left
    ·intro w;go_simp;try (with_reducible rfl)
    rotate_left
    refine wpAny_ready (rs:=[9,13]) (by kernel_rfl) (by simp) ?_
    refine AllReady.cons rfl (fun K hK=>?_) (AllReady.cons rfl (fun K hK=>?_) AllReady.nil)
    ·(try go_simp)
     (try (refine hK _ _ ?_;clear hK K))
     refine wpAny_ready (rs:=[13]) (by kernel_rfl) (by simp) ?_
     refine AllReady.cons rfl (fun K hK=>?_) AllReady.nil
     (try go_simp)
     (try (refine hK _ _ ?_;clear hK K))
     refine wpAny_take (i:=14) (v:=?_) rfl (by kernel_rfl) (by kernel_rfl) (by kernel_rfl) (fun _ _ _ h=>h) (Or.inl ⟨by kernel_rfl,?_⟩) ?_
     rotate_left
     ·intro w;go_simp;try (with_reducible rfl)
     rotate_left
     refine wpAny_take (i:=15) (v:=?_) rfl (by kernel_rfl) (by kernel_rfl) (by kernel_rfl) (fun _ _ _ h=>h) (Or.inl ⟨by kernel_rfl,?_⟩) ?_
     rotate_left
     ·intro w;go_simp;try (with_reducible rfl)
     rotate_left
     refine wpAny_done (by kernel_rfl) ?_ _
     go_simp
     go_wp2_with fail
     go_meet
     refine⟨?_,N2.out⟩
     first
      | rfl
      | simp[go_sem]
    ·(try go_simp)
     (try (refine hK _ _ ?_;clear hK K))
     refine wpAny_ready (rs:=[9]) (by kernel_rfl) (by simp) ?_
     refine AllReady.cons rfl (fun K hK=>?_) AllReady.nil
     (try go_simp)
     (try (refine hK _ _ ?_;clear hK K))
     refine wpAny_take (i:=14) (v:=?_) rfl (by kernel_rfl) (by kernel_rfl) (by kernel_rfl) (fun _ _ _ h=>h) (Or.inl ⟨by kernel_rfl,?_⟩) ?_
     rotate_left
     ·intro w;go_simp;try (with_reducible rfl)
     rotate_left
     refine wpAny_take (i:=15) (v:=?_) rfl (by kernel_rfl) (by kernel_rfl) (by kernel_rfl) (fun _ _ _ h=>h) (Or.inl ⟨by kernel_rfl,?_⟩) ?_
     rotate_left
     ·intro w;go_simp;try (with_reducible rfl)
     rotate_left
     refine wpAny_done (by kernel_rfl) ?_ _
     go_simp
     go_wp2_with fail
     go_meet
     refine⟨?_,N2.out⟩
     first
      | rfl
      | simp[go_sem]
   ·(try go_simp)
    (try (refine hK _ _ ?_;clear hK K))
    refine wpAny_ready (rs:=[3]) (by kernel_rfl) (by simp) ?_
    refine AllReady.cons rfl (fun K hK=>?_) AllReady.nil
    (try go_simp)
    (try (refine hK _ _ ?_;clear hK K))
    refine wpAny_ready (rs:=[5]) (by kernel_rfl) (by simp) ?_
    refine AllReady.cons rfl (fun K hK=>?_) AllReady.nil
    (try go_simp)
    go_wp2_with (go_at_call 86;refine CK1.out.mono ?_;rintro e w2 ⟨rfl,hb2⟩;have N2:=AS (N1.out.drew.below hb2);clear hb2)
    (try (refine hK _ _ ?_;clear hK K))
    have l2_:=cw (N2.out.at_ (g:=g) (ob:=.cells #[.int .i64 k,.int .i64 f,.int .i64 t,.int .i64 b,.int .i64 qq,.int .i64 wh,.bool wr,.int .i64 c0,.bool oo,.bool hh,.int .i64 dd] 47) (by simp)) 2 (v:=.int .i64 t)
    have nid_:=(show w2.cell? ⟨pb,9,none⟩=some (.int .i64 n.id) from by have h11:=N2.out.node;rw[hpb] at h11;exact(CE.out n _ rfl h11).2.2.2.2.2.2.2.2.2.1)
    refine wpAny_take (i:=6) (v:=?_) rfl (by kernel_rfl) (by kernel_rfl) (by kernel_rfl) (fun _ _ _ h=>h) (Or.inl ⟨by kernel_rfl,?_⟩) ?_
    rotate_left
    ·intro w;go_simp;try (with_reducible rfl)
    rotate_left
    refine wpAny_take (i:=7) (v:=?_) rfl (by kernel_rfl) (by kernel_rfl) (by kernel_rfl) (fun _ _ _ h=>h) (Or.inl ⟨by kernel_rfl,?_⟩) ?_
    rotate_left
    ·intro w;go_simp;try (with_reducible rfl)
    rotate_left
    refine wpAny_take (i:=8) (v:=?_) rfl (by kernel_rfl) (by kernel_rfl) (by kernel_rfl) (fun _ _ _ h=>h) (Or.inl ⟨by kernel_rfl,?_⟩) ?_
    rotate_left
    ·intro w;go_simp;try (with_reducible rfl)
    rotate_left
    refine wpAny_take (i:=10) (v:=?_) rfl (by kernel_rfl) (by kernel_rfl) (by kernel_rfl) (fun _ _ _ h=>h) (Or.inl ⟨by kernel_rfl,?_⟩) ?_
    rotate_left
    ·intro w;go_simp;try (with_reducible rfl)
    rotate_left
    refine wpAny_take (i:=11) (v:=?_) rfl (by kernel_rfl) (by kernel_rfl) (by kernel_rfl) (fun _ _ _ h=>h) (Or.inl ⟨by kernel_rfl,?_⟩) ?_
    rotate_left
    ·intro w;go_simp;try (with_reducible rfl)
    rotate_left
    refine wpAny_take (i:=12) (v:=?_) rfl (by kernel_rfl) (by kernel_rfl) (by kernel_rfl) (fun _ _ _ h=>h) (Or.inl ⟨by kernel_rfl,?_⟩) ?_
    rotate_left
    ·intro w;go_simp;try (with_reducible rfl)
    rotate_left
    refine wpAny_ready (rs:=[9,13]) (by kernel_rfl) (by simp) ?_
    refine AllReady.cons rfl (fun K hK=>?_) (AllReady.cons rfl (fun K hK=>?_) AllReady.nil)
    ·(try go_simp)
     (try (refine hK _ _ ?_;clear hK K))
     refine wpAny_ready (rs:=[13]) (by kernel_rfl) (by simp) ?_
     refine AllReady.cons rfl (fun K hK=>?_) AllReady.nil
     (try go_simp)
     (try (refine hK _ _ ?_;clear hK K))
     refine wpAny_take (i:=14) (v:=?_) rfl (by kernel_rfl) (by kernel_rfl) (by kernel_rfl) (fun _ _ _ h=>h) (Or.inl ⟨by kernel_rfl,?_⟩) ?_
     rotate_left
     ·intro w;go_simp;try (with_reducible rfl)
     rotate_left
     refine wpAny_take (i:=15) (v:=?_) rfl (by kernel_rfl) (by kernel_rfl) (by kernel_rfl) (fun _ _ _ h=>h) (Or.inl ⟨by kernel_rfl,?_⟩) ?_
     rotate_left
     ·intro w;go_simp;try (with_reducible rfl)
     rotate_left
     refine wpAny_done (by kernel_rfl) ?_ _
     go_simp
     go_wp2_with fail
     go_meet
     refine⟨?_,N2.out⟩
     first
      | rfl
      | simp[go_sem]
    ·(try go_simp)
     (try (refine hK _ _ ?_;clear hK K))
     refine wpAny_ready (rs:=[9]) (by kernel_rfl) (by simp) ?_
     refine AllReady.cons rfl (fun K hK=>?_) AllReady.nil
     (try go_simp)
     (try (refine hK _ _ ?_;clear hK K))
     refine wpAny_take (i:=14) (v:=?_) rfl (by kernel_rfl) (by kernel_rfl) (by kernel_rfl) (fun _ _ _ h=>h) (Or.inl ⟨by kernel_rfl,?_⟩) ?_
     rotate_left
     ·intro w;go_simp;try (with_reducible rfl)
     rotate_left
     refine wpAny_take (i:=15) (v:=?_) rfl (by kernel_rfl) (by kernel_rfl) (by kernel_rfl) (fun _ _ _ h=>h) (Or.inl ⟨by kernel_rfl,?_⟩) ?_
     rotate_left
     ·intro w;go_simp;try (with_reducible rfl)
     rotate_left
     refine wpAny_done (by kernel_rfl) ?_ _
     go_simp
     go_wp2_with fail
     go_meet
     refine⟨?_,N2.out⟩
     first
      | rfl
      | simp[go_sem]
  case rest =>
   obtain⟨rfl,hcut⟩:=hcut
   have N2:=AS hcut
   clear hcut KEEP N1 e0_ e1_ e2_ e3_ e4_ e5_ e6_ e7_ e8_ e9_ e10_ e11_ e12_ e13_ e14_ e15_ e16_ e17_ e18_ e19_ e20_
   by_cases q2:t=n.id
   case neg =>
    have hr:=HR.out.trans (if_pos (.inr q2))
    have hv2:(!decide (t=n.id))=true:=by simp[q2]
    rw[hv2]
    obtain⟨A1,n1,c1,A2,n2,c2,hq_⟩:=N2.out.outs
    have HQ:=AS hq_
    have HQ2:=AS (show wc.heap[g+3]?=some (.cells #[.slice A1 n1 c1,.slice A2 n2 c2] 138 (0,0)) from by rw[<- hpq];exact hq_)
    have q0_:=cw HQ2.out 0 (v:=.slice A1 n1 c1)
    have q1_:=cw HQ2.out 1 (v:=.slice A2 n2 c2)
    have RB:=AS (N2.out.at_ (g:=g+2) (ob:=.cells #[.slice none 0 0,.slice none 0 0] 138) (by simp))
    have r0_:=cw RB.out 0 (v:=.slice none 0 0)
    have r1_:=cw RB.out 1 (v:=.slice none 0 0)
    have rz0_:=blk_frozen RB.out 0
    have rz1_:=blk_frozen RB.out 1
    clear hq_
    go_wp2
    refine bodyPost_ret (v:=.agg #[.slice A1 n1 c1,.slice A2 n2 c2]) (by simp[results,Tryz.results60,go_sem,r0_,r1_]) rfl ?_
    (try rw[hr])
    exact NX.fin (v:=fun a b=>.agg #[a,b]) (r:=g+2) (ob:=.cells #[.slice none 0 0,.slice none 0 0] 138) N2.out (by simp) (fun x hx=>H6.out x (by rw[<- hg];exact hx)) HQ.out (by repeat (with_reducible first | exact KS.refl _ _ | apply KS.drew | apply KS.set1))
   case pos =>
    have hr:=HR.out.trans (if_neg (by simp[q1,q2]))
    have hv2:(!decide (t=n.id))=false:=by simp[q2]
    rw[hv2]
    clear HR
    have HR:=AS hr
    clear hr hv hv2
    have m1:=fun w:Go.World=>run_makeMap (P:=Tryz.prog) 198 w
    have hb0:=(heap_alloc wc (.map #[] 0)).1
    obtain⟨s1,k1,hr1,hi1⟩:=IM.empty.put hb0 under198 under3 1 (.func (.func 92) #[.pointer (some ⟨pb,0,none⟩)] #[])
    have hb1:=set_at hb0 (.map s1 k1)
    obtain⟨s2,k2,hr2,hi2⟩:=hi1.put hb1 under198 under3 2 (.func (.func 93) #[.pointer (some ⟨pb,0,none⟩)] #[])
    have hb2:=set_at hb1 (.map s2 k2)
    obtain⟨s3,k3,hr3,hi3⟩:=hi2.put hb2 under198 under3 4 (.func (.func 94) #[.pointer (some ⟨pb,0,none⟩)] #[])
    have hb3:=set_at hb2 (.map s3 k3)
    obtain⟨s4,k4,hr4,hi4⟩:=hi3.put hb3 under198 under3 6 (.func (.func 95) #[.pointer (some ⟨pb,0,none⟩)] #[])
    have hb4:=set_at hb3 (.map s4 k4)
    have LK:=AS (show ∀ W':Go.World,W'.heap[wc.heap.size]?=some (.map s4 k4)->_ from fun W' h=>hi4.look2 h under198 under3 (zero197 W') k)
    have N3:=AS (N2.out.below (below_block (below_block (below_block (below_block (below_alloc (Below.refl wc.heap.size wc) (.map #[] 0)) (Nat.le_refl _) (.map s1 k1)) (Nat.le_refl _) (.map s2 k2)) (Nat.le_refl _) (.map s3 k3)) (Nat.le_refl _) (.map s4 k4)))
    have HB:=AS hb4
    clear hb0 hb1 hb2 hb3 hb4 hi1 hi2 hi3 hi4
    go_upto_region 5 with fail
    clear hr1 hr2 hr3 hr4 m1
    generalize setBlock (setBlock (setBlock (setBlock (wc.alloc (.map #[] 0)) wc.heap.size (.map s1 k1)) wc.heap.size (.map s2 k2)) wc.heap.size (.map s3 k3)) wc.heap.size (.map s4 k4)=W4 at N3 HB ⊢
    have lk:=LK.out W4 HB.out
    clear LK HB N2
    have KEEP:=AS (show ∀ (n':S.Node) (o':S.Out) (bx:List (Nat×Obj)) x,NX c n' o' p K w bx x->n'.id=n.id->(g,(.cells #[.int .i64 k,.int .i64 f,.int .i64 t,.int .i64 b,.int .i64 qq,.int .i64 wh,.bool wr,.int .i64 c0,.bool oo,.bool hh,.int .i64 dd] 47:Obj))∈bx->(g+1,(.cells #[.int .i64 d0,.int .i64 d1,.int .i64 d2] 74:Obj))∈bx->(x.cell? ⟨g,0,none⟩=some (.int .i64 k)/\x.cell? ⟨g,1,none⟩=some (.int .i64 f)/\x.cell? ⟨g,2,none⟩=some (.int .i64 t)/\x.cell? ⟨g,3,none⟩=some (.int .i64 b)/\x.cell? ⟨g,4,none⟩=some (.int .i64 qq)/\x.cell? ⟨g,5,none⟩=some (.int .i64 wh)/\x.cell? ⟨g,6,none⟩=some (.bool wr)/\x.cell? ⟨g,7,none⟩=some (.int .i64 c0)/\x.cell? ⟨g,8,none⟩=some (.bool oo)/\x.cell? ⟨g,9,none⟩=some (.bool hh)/\x.cell? ⟨g,10,none⟩=some (.int .i64 dd)/\x.cell? ⟨g+1,0,none⟩=some (.int .i64 d0)/\x.cell? ⟨g+1,1,none⟩=some (.int .i64 d1)/\x.cell? ⟨g+1,2,none⟩=some (.int .i64 d2)) from fun n' o' bx x hx hid m0 m1=>by
     have hb0:=hx.at_ m0
     have hb1:=hx.at_ m1
     exact⟨cw hb0 0,cw hb0 1,cw hb0 2,cw hb0 3,cw hb0 4,cw hb0 5,cw hb0 6,cw hb0 7,cw hb0 8,cw hb0 9,cw hb0 10,cw hb1 0,cw hb1 1,cw hb1 2⟩)
    have hS_:=KEEP.out _ _ _ _ N3.out rfl (by simp) (by simp)
    have e0_:=hS_.1
    have e1_:=hS_.2.1
    have e2_:=hS_.2.2.1
    have e3_:=hS_.2.2.2.1
    have e4_:=hS_.2.2.2.2.1
    have e5_:=hS_.2.2.2.2.2.1
    have e6_:=hS_.2.2.2.2.2.2.1
    have e7_:=hS_.2.2.2.2.2.2.2.1
    have e8_:=hS_.2.2.2.2.2.2.2.2.1
    have e9_:=hS_.2.2.2.2.2.2.2.2.2.1
    have e10_:=hS_.2.2.2.2.2.2.2.2.2.2.1
    have e11_:=hS_.2.2.2.2.2.2.2.2.2.2.2.1
    have e12_:=hS_.2.2.2.2.2.2.2.2.2.2.2.2.1
    have e13_:=hS_.2.2.2.2.2.2.2.2.2.2.2.2.2
    clear hS_
    by_cases c1:k=1
    ·have hr:=HR.out.trans (if_pos c1)
     have lk':(Instr.lookup 198 (.map (some wc.heap.size)) (.int .i64 k) true).run Tryz.prog W4=.ok (.tuple #[.func (.func 92) #[.pointer (some ⟨pb,0,none⟩)] #[],.bool true]) W4:=by rw[lk];simp[fput,c1]
     have lk2:=lk'
     rw[c1] at lk2
     have CA:=AS (N3.out.call (fun K1 h=>nodeTokens_any h (by show 0≤_;omega) (by show 0≤_;omega) ⟨1,f,n.id,b,qq,wh,wr,⟨c0,oo,hh,dd⟩⟩ ⟨d0,d1,d2⟩))
     rw[c1,q2] at hr
     rw[hpb,hpq] at CA
     simp only[letV,drwV] at CA
     clear lk
     go_wp2_with fail
     refine CA.out.mono ?_
     rintro e w7 ⟨rfl,h7⟩
     have N7:=AS h7
     clear h7 CA lk'
     obtain⟨A1,n1,c1,A2,n2,c2,hq_⟩:=N7.out.outs
     have HQ:=AS hq_
     have HQ2:=AS (show w7.heap[g+3]?=some (.cells #[.slice A1 n1 c1,.slice A2 n2 c2] 138 (0,0)) from by rw[<- hpq];exact hq_)
     have q0_:=cw HQ2.out 0 (v:=.slice A1 n1 c1)
     have q1_:=cw HQ2.out 1 (v:=.slice A2 n2 c2)
     have RB:=AS (N7.out.at_ (g:=g+2) (ob:=.cells #[.slice none 0 0,.slice none 0 0] 138) (by simp))
     have r0_:=cw RB.out 0 (v:=.slice none 0 0)
     have r1_:=cw RB.out 1 (v:=.slice none 0 0)
     have rz0_:=blk_frozen RB.out 0
     have rz1_:=blk_frozen RB.out 1
     clear hq_
     go_wp2
     refine bodyPost_ret (v:=.agg #[.slice A1 n1 c1,.slice A2 n2 c2]) (by simp[results,Tryz.results60,go_sem,r0_,r1_]) rfl ?_
     (try rw[hr])
     exact NX.fin (v:=fun a b=>.agg #[a,b]) (r:=g+2) (ob:=.cells #[.slice none 0 0,.slice none 0 0] 138) N7.out (by simp) (fun x hx=>H6.out x (by rw[<- hg];exact hx)) HQ.out (by repeat (with_reducible first | exact KS.refl _ _ | apply KS.drew | apply KS.set1))
    by_cases c2:k=2
    ·have hr:=(HR.out.trans (if_neg c1)).trans (if_pos c2)
     have lk':(Instr.lookup 198 (.map (some wc.heap.size)) (.int .i64 k) true).run Tryz.prog W4=.ok (.tuple #[.func (.func 93) #[.pointer (some ⟨pb,0,none⟩)] #[],.bool true]) W4:=by rw[lk];simp[fput,c2]
     have lk2:=lk'
     rw[c2] at lk2
     have CA:=AS (N3.out.call (fun K1 h=>nodeAsks_any h (by show 0≤_;omega) ⟨2,f,n.id,b,qq,wh,wr,⟨c0,oo,hh,dd⟩⟩ ⟨d0,d1,d2⟩))
     rw[c2,q2] at hr
     rw[hpb,hpq] at CA
     simp only[letV,drwV] at CA
     clear lk
     go_wp2_with fail
     refine CA.out.mono ?_
     rintro e w7 ⟨rfl,h7⟩
     have N7:=AS h7
     clear h7 CA lk'
     obtain⟨A1,n1,c1,A2,n2,c2,hq_⟩:=N7.out.outs
     have HQ:=AS hq_
     have HQ2:=AS (show w7.heap[g+3]?=some (.cells #[.slice A1 n1 c1,.slice A2 n2 c2] 138 (0,0)) from by rw[<- hpq];exact hq_)
     have q0_:=cw HQ2.out 0 (v:=.slice A1 n1 c1)
     have q1_:=cw HQ2.out 1 (v:=.slice A2 n2 c2)
     have RB:=AS (N7.out.at_ (g:=g+2) (ob:=.cells #[.slice none 0 0,.slice none 0 0] 138) (by simp))
     have r0_:=cw RB.out 0 (v:=.slice none 0 0)
     have r1_:=cw RB.out 1 (v:=.slice none 0 0)
     have rz0_:=blk_frozen RB.out 0
     have rz1_:=blk_frozen RB.out 1
     clear hq_
     go_wp2
     refine bodyPost_ret (v:=.agg #[.slice A1 n1 c1,.slice A2 n2 c2]) (by simp[results,Tryz.results60,go_sem,r0_,r1_]) rfl ?_
     (try rw[hr])
     exact NX.fin (v:=fun a b=>.agg #[a,b]) (r:=g+2) (ob:=.cells #[.slice none 0 0,.slice none 0 0] 138) N7.out (by simp) (fun x hx=>H6.out x (by rw[<- hg];exact hx)) HQ.out (by repeat (with_reducible first | exact KS.refl _ _ | apply KS.drew | apply KS.set1))
    by_cases c4:k=4
    ·have hr:=((HR.out.trans (if_neg c1)).trans (if_neg c2)).trans (if_pos c4)
     have lk':(Instr.lookup 198 (.map (some wc.heap.size)) (.int .i64 k) true).run Tryz.prog W4=.ok (.tuple #[.func (.func 94) #[.pointer (some ⟨pb,0,none⟩)] #[],.bool true]) W4:=by rw[lk];simp[fput,c4]
     have lk2:=lk'
     rw[c4] at lk2
     have CA:=AS (N3.out.call (fun K1 h=>nodeActivate_any h (by show 0≤_;omega) ⟨4,f,n.id,b,qq,wh,wr,⟨c0,oo,hh,dd⟩⟩ ⟨d0,d1,d2⟩))
     rw[c4,q2] at hr
     rw[hpb,hpq] at CA
     simp only[letV,drwV] at CA
     clear lk
     go_wp2_with fail
     refine CA.out.mono ?_
     rintro e w7 ⟨rfl,h7⟩
     have N7:=AS h7
     clear h7 CA lk'
     obtain⟨A1,n1,c1,A2,n2,c2,hq_⟩:=N7.out.outs
     have HQ:=AS hq_
     have HQ2:=AS (show w7.heap[g+3]?=some (.cells #[.slice A1 n1 c1,.slice A2 n2 c2] 138 (0,0)) from by rw[<- hpq];exact hq_)
     have q0_:=cw HQ2.out 0 (v:=.slice A1 n1 c1)
     have q1_:=cw HQ2.out 1 (v:=.slice A2 n2 c2)
     have RB:=AS (N7.out.at_ (g:=g+2) (ob:=.cells #[.slice none 0 0,.slice none 0 0] 138) (by simp))
     have r0_:=cw RB.out 0 (v:=.slice none 0 0)
     have r1_:=cw RB.out 1 (v:=.slice none 0 0)
     have rz0_:=blk_frozen RB.out 0
     have rz1_:=blk_frozen RB.out 1
     clear hq_
     go_wp2
     refine bodyPost_ret (v:=.agg #[.slice A1 n1 c1,.slice A2 n2 c2]) (by simp[results,Tryz.results60,go_sem,r0_,r1_]) rfl ?_
     (try rw[hr])
     exact NX.fin (v:=fun a b=>.agg #[a,b]) (r:=g+2) (ob:=.cells #[.slice none 0 0,.slice none 0 0] 138) N7.out (by simp) (fun x hx=>H6.out x (by rw[<- hg];exact hx)) HQ.out (by repeat (with_reducible first | exact KS.refl _ _ | apply KS.drew | apply KS.set1))
    by_cases c6:k=6
    ·have hr:=(((HR.out.trans (if_neg c1)).trans (if_neg c2)).trans (if_neg c4)).trans (if_pos c6)
     have lk':(Instr.lookup 198 (.map (some wc.heap.size)) (.int .i64 k) true).run Tryz.prog W4=.ok (.tuple #[.func (.func 95) #[.pointer (some ⟨pb,0,none⟩)] #[],.bool true]) W4:=by rw[lk];simp[fput,c6]
     have lk2:=lk'
     rw[c6] at lk2
     have CA:=AS (N3.out.call (fun K1 h=>nodeDeact_any h (by show 0≤_;omega) ⟨6,f,n.id,b,qq,wh,wr,⟨c0,oo,hh,dd⟩⟩ ⟨d0,d1,d2⟩))
     rw[c6,q2] at hr
     rw[hpb,hpq] at CA
     simp only[letV,drwV] at CA
     clear lk
     go_wp2_with fail
     refine CA.out.mono ?_
     rintro e w7 ⟨rfl,h7⟩
     have N7:=AS h7
     clear h7 CA lk'
     obtain⟨A1,n1,c1,A2,n2,c2,hq_⟩:=N7.out.outs
     have HQ:=AS hq_
     have HQ2:=AS (show w7.heap[g+3]?=some (.cells #[.slice A1 n1 c1,.slice A2 n2 c2] 138 (0,0)) from by rw[<- hpq];exact hq_)
     have q0_:=cw HQ2.out 0 (v:=.slice A1 n1 c1)
     have q1_:=cw HQ2.out 1 (v:=.slice A2 n2 c2)
     have RB:=AS (N7.out.at_ (g:=g+2) (ob:=.cells #[.slice none 0 0,.slice none 0 0] 138) (by simp))
     have r0_:=cw RB.out 0 (v:=.slice none 0 0)
     have r1_:=cw RB.out 1 (v:=.slice none 0 0)
     have rz0_:=blk_frozen RB.out 0
     have rz1_:=blk_frozen RB.out 1
     clear hq_
     go_wp2
     refine bodyPost_ret (v:=.agg #[.slice A1 n1 c1,.slice A2 n2 c2]) (by simp[results,Tryz.results60,go_sem,r0_,r1_]) rfl ?_
     (try rw[hr])
     exact NX.fin (v:=fun a b=>.agg #[a,b]) (r:=g+2) (ob:=.cells #[.slice none 0 0,.slice none 0 0] 138) N7.out (by simp) (fun x hx=>H6.out x (by rw[<- hg];exact hx)) HQ.out (by repeat (with_reducible first | exact KS.refl _ _ | apply KS.drew | apply KS.set1))
    have hr:=(((HR.out.trans (if_neg c1)).trans (if_neg c2)).trans (if_neg c4)).trans (if_neg c6)
    have lk':(Instr.lookup 198 (.map (some wc.heap.size)) (.int .i64 k) true).run Tryz.prog W4=.ok (.tuple #[.nilFunc,.bool false]) W4:=by rw[lk];simp[fput,c1,c2,c4,c6]
    clear lk
    obtain⟨A1,n1,c1,A2,n2,c2,hq_⟩:=N3.out.outs
    have HQ:=AS hq_
    have HQ2:=AS (show W4.heap[g+3]?=some (.cells #[.slice A1 n1 c1,.slice A2 n2 c2] 138 (0,0)) from by rw[<- hpq];exact hq_)
    have q0_:=cw HQ2.out 0 (v:=.slice A1 n1 c1)
    have q1_:=cw HQ2.out 1 (v:=.slice A2 n2 c2)
    have RB:=AS (N3.out.at_ (g:=g+2) (ob:=.cells #[.slice none 0 0,.slice none 0 0] 138) (by simp))
    have r0_:=cw RB.out 0 (v:=.slice none 0 0)
    have r1_:=cw RB.out 1 (v:=.slice none 0 0)
    have rz0_:=blk_frozen RB.out 0
    have rz1_:=blk_frozen RB.out 1
    clear hq_
    go_wp2
    refine bodyPost_ret (v:=.agg #[.slice A1 n1 c1,.slice A2 n2 c2]) (by simp[results,Tryz.results60,go_sem,r0_,r1_]) rfl ?_
    (try rw[hr])
    exact NX.fin (v:=fun a b=>.agg #[a,b]) (r:=g+2) (ob:=.cells #[.slice none 0 0,.slice none 0 0] 138) N3.out (by simp) (fun x hx=>H6.out x (by rw[<- hg];exact hx)) HQ.out (by repeat (with_reducible first | exact KS.refl _ _ | apply KS.drew | apply KS.set1))
theorem nodeTake_any {c:Cfg} {n:S.Node} {p:NPtr} {K:Nat->Nat} {w:Go.World} (hN:NodeK c n p K w) (h6:∀ x,x < w.heap.size->K x≠6) (l:Let) (d:Drw):Calls Tryz.prog 60 #[.pointer (some ⟨p.b,0,none⟩),letV l,drwV d] w (NRes (fun a b=>.agg #[a,b]) c (n.take c l d).1 (n.take c l d).2 p K w) :=
 nodeTake_aux (p:={ p with q:=w.heap.size+3 }) hN rfl h6 l d
end Go.Proofs.YtiebppkhaiofeaaGreat.K
