/- Part of the proof of TopStarver: what functions of the program do. -/
import Derived.Test.YtiebppkhaiofeaaGreatS22
set_option maxHeartbeats 4000000
set_option maxRecDepth 100000
set_option linter.unusedVariables false
set_option linter.unusedSimpArgs false
namespace Go.Proofs.YtiebppkhaiofeaaGreat.K
open Go.RowKit Go.Proofs.YtiebppkhaiofeaaGreatW.PrintWords Go.Proofs.YtiebppkhaiofeaaGreat.S
attribute [local go_sem] World.cell?_alloc_some
open Go.ChangeMaps Go.MapKept
theorem begin_eq (c:Cfg) (h:S.Home) (r:Arb×Option S.Act):({ h with queue:=r.1 }:S.Home).begin_ c (r.1,r.2)=h.begin_ c r:=by
 obtain⟨r1,r2⟩:=r
 cases r2 <;> rfl
theorem HRet.after {c:Cfg} {h1 h2:S.Home} {b bm bq:Nat} {K:Nat->Nat} {w w1:Go.World} {bx:List (Nat×Obj)} {ls:List Let} {f:Nat} {args:Array Value} (hg:GX (HomeK c h1 b bm bq) 2 K w bx w1) (hs:∀ K1,HomeK c h1 b bm bq K1 w1->Calls Tryz.prog f args w1 (HRet c h2 ls b bm bq K1 w1)):Calls Tryz.prog f args w1 (fun e w'=>HRet c h2 ls b bm bq K w e w'/\(∀ q∈bx,w'.heap[q.1]?=some q.2)/\w'.heap[b]?=some (.cells (homeC c bm bq) 124 (0,0))):=by
 obtain⟨K1,ha,hN,hk,hB,hD⟩:=hg
 refine(hs K1 hN).mono ?_
 rintro e w2 ⟨v,K2,rfl,hb,hN2,hO,hf,hk2⟩
 have hsz:=hk.size
 refine⟨?_,fun q hq=>hk2.at_ (hB q hq).2.2 (by have:=(hB q hq).1;show ¬ K1 q.1≤2;omega),hN2.1⟩
 exact⟨v,K2,rfl,fun x hx=>(hb x (by omega)).trans (ha x hx),hN2,hO,fun x hx=>⟨by have:=(hf x hx).1;omega,(hf x hx).2⟩,hk.trans hk2 (fun x hx h=>by rw[<- ha x hx];exact h)⟩
theorem homePersist_any {c:Cfg} {h:S.Home} {b_ bm bq:Nat} {K:Nat->Nat} {w:Go.World} (hH:HomeK c h b_ bm bq K w) (hql:∀ r∈h.queue.rows,r.queue.length≤1000000) (l:Let) (d:Drw):Calls Tryz.prog 89 #[.pointer (some ⟨b_,0,none⟩),letV l,drwV d] w (HRet c (h.begin_ c (h.queue.ask l.block l.src)).1 (h.begin_ c (h.queue.ask l.block l.src)).2 b_ bm bq K w):=by
 obtain⟨k,f,t,b,qq,wh,wr,⟨c0,oo,hh,dd⟩⟩:=l
 obtain⟨d0,d1,d2⟩:=d
 have N1:=AS (GX.box (homeStays _ _ _ _ _) (GX.box (homeStays _ _ _ _ _) (GX.refl (m:=2) hH) (.cells #[.int .i64 k,.int .i64 f,.int .i64 t,.int .i64 b,.int .i64 qq,.int .i64 wh,.bool wr,.int .i64 c0,.bool oo,.bool hh,.int .i64 dd] 47)) (.cells #[.int .i64 d0,.int .i64 d1,.int .i64 d2] 74))
 rw[show(w.alloc (.cells #[.int .i64 k,.int .i64 f,.int .i64 t,.int .i64 b,.int .i64 qq,.int .i64 wh,.bool wr,.int .i64 c0,.bool oo,.bool hh,.int .i64 dd] 47)).heap.size=w.heap.size+1 by simp] at N1
 show Calls Tryz.prog 89 #[.pointer (some ⟨b_,0,none⟩),.agg #[.int .i64 k,.int .i64 f,.int .i64 t,.int .i64 b,.int .i64 qq,.int .i64 wh,.bool wr,.int .i64 c0,.bool oo,.bool hh,.int .i64 dd],.agg #[.int .i64 d0,.int .i64 d1,.int .i64 d2]] w (HRet c (h.begin_ c (h.queue.ask b f)).1 (h.begin_ c (h.queue.ask b f)).2 b_ bm bq K w)
 clear hH
 go_enter Tryz.func89,Tryz.ntmps89
 go_upto_region 1 with fail
 generalize ((w.alloc (.cells #[.int .i64 k,.int .i64 f,.int .i64 t,.int .i64 b,.int .i64 qq,.int .i64 wh,.bool wr,.int .i64 c0,.bool oo,.bool hh,.int .i64 dd] 47)).alloc (.cells #[.int .i64 d0,.int .i64 d1,.int .i64 d2] 74))=W at N1 ⊢
 generalize hg:w.heap.size=g at *
 have KEEP:=AS (show ∀ (h':S.Home) (bx:List (Nat×Obj)) x,GX (HomeK c h' b_ bm bq) 2 K w bx x->(g,(.cells #[.int .i64 k,.int .i64 f,.int .i64 t,.int .i64 b,.int .i64 qq,.int .i64 wh,.bool wr,.int .i64 c0,.bool oo,.bool hh,.int .i64 dd] 47:Obj))∈bx->(x.cell? ⟨b_,10,none⟩=some (.pointer (some ⟨bq,0,none⟩))/\x.cell? ⟨g,3,none⟩=some (.int .i64 b)/\x.cell? ⟨g,1,none⟩=some (.int .i64 f)) from fun h' bx x hx m0=>by
  have h11:=hx.blkH
  have hb0:=hx.at_ m0
  exact⟨cw h11 10,cw hb0 3,cw hb0 1⟩)
 have hS_:=KEEP.out _ _ _ N1.out (by simp)
 have e0_:=hS_.1
 have e1_:=hS_.2.1
 have e2_:=hS_.2.2
 clear hS_
 have AK:=AS ((GX.drew (homeStays _ _ _ _ _) N1.out).call (fun K1 hh=>hh.ask b f hql))
 rw[<- begin_eq]
 generalize h.queue.ask b f=rr at *
 obtain⟨r1,r2⟩:=rr
 simp only at AK ⊢
 have BG:=AS (show ∀ bx W',GX (HomeK c { h with queue:=r1 } b_ bm bq) 2 K w bx W'->_ from fun bx W' hx=>HRet.after hx (fun K1 hh=>homeBegin_any hh r2))
 have HAV:=AS (show actO r2=.tuple #[.agg #[.int .i64 (r2.getD act0).block,.int .i64 (r2.getD act0).node,.int .i64 (r2.getD act0).seq],.bool r2.isSome] from rfl)
 rw[HAV.out] at AK
 simp only[actV] at BG
 clear HAV
 generalize (r2.getD act0).block=m1 at *
 generalize (r2.getD act0).node=m2 at *
 generalize (r2.getD act0).seq=m3 at *
 generalize r2.isSome=m4 at *
 go_region_held3 (fun x=>x.cell? ⟨b_,10,none⟩=some (.pointer (some ⟨bq,0,none⟩))/\x.cell? ⟨g,3,none⟩=some (.int .i64 b)/\x.cell? ⟨g,1,none⟩=some (.int .i64 f)) (((try dsimp only);(first | (exact S3.out) | (apply KEEP.out;(focus (first | (with_reducible apply N2.out) | (with_reducible apply N1.out) | (with_reducible apply (GX.drew (homeStays _ _ _ _ _) N1.out))));(all_goals simp))))) ((first | (go_at_call 125;refine AK.out.mono ?_;rintro e w2 ⟨rfl,h2⟩;have N2:=AS h2;clear h2) | (go_at_call 124;refine(BG.out _ _ N2.out).mono ?_;rintro e w3 ⟨hR,hB3,hb3⟩;obtain⟨v,K3,rfl,r3⟩:=hR;have F3:=AS (show HRet c _ _ b_ bm bq K w (.returned v) w3 from⟨v,K3,rfl,r3⟩);have S3:=AS (show w3.cell? ⟨b_,10,none⟩=some (.pointer (some ⟨bq,0,none⟩))/\w3.cell? ⟨g,3,none⟩=some (.int .i64 b)/\w3.cell? ⟨g,1,none⟩=some (.int .i64 f) from by have q2:=hB3 (g,.cells #[.int .i64 k,.int .i64 f,.int .i64 t,.int .i64 b,.int .i64 qq,.int .i64 wh,.bool wr,.int .i64 c0,.bool oo,.bool hh,.int .i64 dd] 47) (by simp);exact⟨cw hb3 10,cw q2 3,cw q2 1⟩);clear r3 hB3 hb3)))
 all_goals
  go_wp2
  go_ret
  exact F3.out
theorem homeAck_any {c:Cfg} {h:S.Home} {b_ bm bq:Nat} {K:Nat->Nat} {w:Go.World} (hH:HomeK c h b_ bm bq K w) (l:Let) (d:Drw):Calls Tryz.prog 91 #[.pointer (some ⟨b_,0,none⟩),letV l,drwV d] w (HRet c (h.begin_ c (h.queue.ack l.block l.seq l.src)).1 (h.begin_ c (h.queue.ack l.block l.seq l.src)).2 b_ bm bq K w):=by
 obtain⟨k,f,t,b,qq,wh,wr,⟨c0,oo,hh,dd⟩⟩:=l
 obtain⟨d0,d1,d2⟩:=d
 have N1:=AS (GX.box (homeStays _ _ _ _ _) (GX.box (homeStays _ _ _ _ _) (GX.refl (m:=2) hH) (.cells #[.int .i64 k,.int .i64 f,.int .i64 t,.int .i64 b,.int .i64 qq,.int .i64 wh,.bool wr,.int .i64 c0,.bool oo,.bool hh,.int .i64 dd] 47)) (.cells #[.int .i64 d0,.int .i64 d1,.int .i64 d2] 74))
 rw[show(w.alloc (.cells #[.int .i64 k,.int .i64 f,.int .i64 t,.int .i64 b,.int .i64 qq,.int .i64 wh,.bool wr,.int .i64 c0,.bool oo,.bool hh,.int .i64 dd] 47)).heap.size=w.heap.size+1 by simp] at N1
 show Calls Tryz.prog 91 #[.pointer (some ⟨b_,0,none⟩),.agg #[.int .i64 k,.int .i64 f,.int .i64 t,.int .i64 b,.int .i64 qq,.int .i64 wh,.bool wr,.int .i64 c0,.bool oo,.bool hh,.int .i64 dd],.agg #[.int .i64 d0,.int .i64 d1,.int .i64 d2]] w (HRet c (h.begin_ c (h.queue.ack b qq f)).1 (h.begin_ c (h.queue.ack b qq f)).2 b_ bm bq K w)
 clear hH
 go_enter Tryz.func91,Tryz.ntmps91
 go_upto_region 1 with fail
 generalize ((w.alloc (.cells #[.int .i64 k,.int .i64 f,.int .i64 t,.int .i64 b,.int .i64 qq,.int .i64 wh,.bool wr,.int .i64 c0,.bool oo,.bool hh,.int .i64 dd] 47)).alloc (.cells #[.int .i64 d0,.int .i64 d1,.int .i64 d2] 74))=W at N1 ⊢
 generalize hg:w.heap.size=g at *
 have KEEP:=AS (show ∀ (h':S.Home) (bx:List (Nat×Obj)) x,GX (HomeK c h' b_ bm bq) 2 K w bx x->(g,(.cells #[.int .i64 k,.int .i64 f,.int .i64 t,.int .i64 b,.int .i64 qq,.int .i64 wh,.bool wr,.int .i64 c0,.bool oo,.bool hh,.int .i64 dd] 47:Obj))∈bx->(x.cell? ⟨b_,10,none⟩=some (.pointer (some ⟨bq,0,none⟩))/\x.cell? ⟨g,3,none⟩=some (.int .i64 b)/\x.cell? ⟨g,4,none⟩=some (.int .i64 qq)/\x.cell? ⟨g,1,none⟩=some (.int .i64 f)) from fun h' bx x hx m0=>by
  have h11:=hx.blkH
  have hb0:=hx.at_ m0
  exact⟨cw h11 10,cw hb0 3,cw hb0 4,cw hb0 1⟩)
 have hS_:=KEEP.out _ _ _ N1.out (by simp)
 have e0_:=hS_.1
 have e1_:=hS_.2.1
 have e2_:=hS_.2.2.1
 have e3_:=hS_.2.2.2
 clear hS_
 have AK:=AS ((GX.drew (homeStays _ _ _ _ _) N1.out).call (fun K1 hh=>hh.ack b qq f))
 rw[<- begin_eq]
 generalize h.queue.ack b qq f=rr at *
 obtain⟨r1,r2⟩:=rr
 simp only at AK ⊢
 have BG:=AS (show ∀ bx W',GX (HomeK c { h with queue:=r1 } b_ bm bq) 2 K w bx W'->_ from fun bx W' hx=>HRet.after hx (fun K1 hh=>homeBegin_any hh r2))
 have HAV:=AS (show actO r2=.tuple #[.agg #[.int .i64 (r2.getD act0).block,.int .i64 (r2.getD act0).node,.int .i64 (r2.getD act0).seq],.bool r2.isSome] from rfl)
 rw[HAV.out] at AK
 simp only[actV] at BG
 clear HAV
 generalize (r2.getD act0).block=m1 at *
 generalize (r2.getD act0).node=m2 at *
 generalize (r2.getD act0).seq=m3 at *
 generalize r2.isSome=m4 at *
 go_region_held3 (fun x=>x.cell? ⟨b_,10,none⟩=some (.pointer (some ⟨bq,0,none⟩))/\x.cell? ⟨g,3,none⟩=some (.int .i64 b)/\x.cell? ⟨g,4,none⟩=some (.int .i64 qq)/\x.cell? ⟨g,1,none⟩=some (.int .i64 f)) (((try dsimp only);(first | (exact S3.out) | (apply KEEP.out;(focus (first | (with_reducible apply N2.out) | (with_reducible apply N1.out) | (with_reducible apply (GX.drew (homeStays _ _ _ _ _) N1.out))));(all_goals simp))))) ((first | (go_at_call 128;refine AK.out.mono ?_;rintro e w2 ⟨rfl,h2⟩;have N2:=AS h2;clear h2) | (go_at_call 124;refine(BG.out _ _ N2.out).mono ?_;rintro e w3 ⟨hR,hB3,hb3⟩;obtain⟨v,K3,rfl,r3⟩:=hR;have F3:=AS (show HRet c _ _ b_ bm bq K w (.returned v) w3 from⟨v,K3,rfl,r3⟩);have S3:=AS (show w3.cell? ⟨b_,10,none⟩=some (.pointer (some ⟨bq,0,none⟩))/\w3.cell? ⟨g,3,none⟩=some (.int .i64 b)/\w3.cell? ⟨g,4,none⟩=some (.int .i64 qq)/\w3.cell? ⟨g,1,none⟩=some (.int .i64 f) from by have q2:=hB3 (g,.cells #[.int .i64 k,.int .i64 f,.int .i64 t,.int .i64 b,.int .i64 qq,.int .i64 wh,.bool wr,.int .i64 c0,.bool oo,.bool hh,.int .i64 dd] 47) (by simp);exact⟨cw hb3 10,cw q2 3,cw q2 4,cw q2 1⟩);clear r3 hB3 hb3)))
 all_goals
  go_wp2
  go_ret
  exact F3.out
theorem homeDone_any {c:Cfg} {h:S.Home} {b_ bm bq:Nat} {K:Nat->Nat} {w:Go.World} (hH:HomeK c h b_ bm bq K w) (l:Let) (d:Drw):Calls Tryz.prog 90 #[.pointer (some ⟨b_,0,none⟩),letV l,drwV d] w (HRet c { h with queue:=(h.queue.done l.block l.seq).1 } (if (h.queue.done l.block l.seq).2 then spread 6 c.nodes l.block l.seq 0 c.nodes else []) b_ bm bq K w):=by
 obtain⟨k,f,t,b,qq,wh,wr,⟨c0,oo,hh,dd⟩⟩:=l
 obtain⟨d0,d1,d2⟩:=d
 have N1:=AS (GX.box (homeStays _ _ _ _ _) (GX.box (homeStays _ _ _ _ _) (GX.refl (m:=2) hH) (.cells #[.int .i64 k,.int .i64 f,.int .i64 t,.int .i64 b,.int .i64 qq,.int .i64 wh,.bool wr,.int .i64 c0,.bool oo,.bool hh,.int .i64 dd] 47)) (.cells #[.int .i64 d0,.int .i64 d1,.int .i64 d2] 74))
 rw[show(w.alloc (.cells #[.int .i64 k,.int .i64 f,.int .i64 t,.int .i64 b,.int .i64 qq,.int .i64 wh,.bool wr,.int .i64 c0,.bool oo,.bool hh,.int .i64 dd] 47)).heap.size=w.heap.size+1 by simp] at N1
 show Calls Tryz.prog 90 #[.pointer (some ⟨b_,0,none⟩),.agg #[.int .i64 k,.int .i64 f,.int .i64 t,.int .i64 b,.int .i64 qq,.int .i64 wh,.bool wr,.int .i64 c0,.bool oo,.bool hh,.int .i64 dd],.agg #[.int .i64 d0,.int .i64 d1,.int .i64 d2]] w (HRet c { h with queue:=(h.queue.done b qq).1 } (if (h.queue.done b qq).2 then spread 6 c.nodes b qq 0 c.nodes else []) b_ bm bq K w)
 clear hH
 go_enter Tryz.func90,Tryz.ntmps90
 go_upto_region 1 with fail
 generalize ((w.alloc (.cells #[.int .i64 k,.int .i64 f,.int .i64 t,.int .i64 b,.int .i64 qq,.int .i64 wh,.bool wr,.int .i64 c0,.bool oo,.bool hh,.int .i64 dd] 47)).alloc (.cells #[.int .i64 d0,.int .i64 d1,.int .i64 d2] 74))=W at N1 ⊢
 generalize hg:w.heap.size=g at *
 have KEEP:=AS (show ∀ (h':S.Home) (bx:List (Nat×Obj)) x,GX (HomeK c h' b_ bm bq) 2 K w bx x->(g,(.cells #[.int .i64 k,.int .i64 f,.int .i64 t,.int .i64 b,.int .i64 qq,.int .i64 wh,.bool wr,.int .i64 c0,.bool oo,.bool hh,.int .i64 dd] 47:Obj))∈bx->(x.cell? ⟨b_,10,none⟩=some (.pointer (some ⟨bq,0,none⟩))/\x.cell? ⟨g,3,none⟩=some (.int .i64 b)/\x.cell? ⟨g,4,none⟩=some (.int .i64 qq)) from fun h' bx x hx m0=>by
  have h11:=hx.blkH
  have hb0:=hx.at_ m0
  exact⟨cw h11 10,cw hb0 3,cw hb0 4⟩)
 have hS_:=KEEP.out _ _ _ N1.out (by simp)
 have e0_:=hS_.1
 have e1_:=hS_.2.1
 have e2_:=hS_.2.2
 clear hS_
 have AK:=AS ((GX.drew (homeStays _ _ _ _ _) N1.out).call (fun K1 hh=>hh.done b qq))
 generalize h.queue.done b qq=rr at *
 obtain⟨r1,r2⟩:=rr
 simp only at AK ⊢
 go_cut [16] (fun v16 wx=>v16=.bool (!r2)/\GX (HomeK c { h with queue:=r1 } b_ bm bq) 2 K w [(g+1,(.cells #[.int .i64 d0,.int .i64 d1,.int .i64 d2] 74:Obj)),(g,(.cells #[.int .i64 k,.int .i64 f,.int .i64 t,.int .i64 b,.int .i64 qq,.int .i64 wh,.bool wr,.int .i64 c0,.bool oo,.bool hh,.int .i64 dd] 47:Obj))] wx)
 case first =>
  go_region_held3 (fun x=>x.cell? ⟨b_,10,none⟩=some (.pointer (some ⟨bq,0,none⟩))/\x.cell? ⟨g,3,none⟩=some (.int .i64 b)/\x.cell? ⟨g,4,none⟩=some (.int .i64 qq)) (((try dsimp only);(first | (apply KEEP.out;(focus (first | (with_reducible apply N2.out) | (with_reducible apply N1.out) | (with_reducible apply (GX.drew (homeStays _ _ _ _ _) N1.out))));(all_goals simp))))) ((first | (go_at_call 126;refine AK.out.mono ?_;rintro e w2 ⟨rfl,h2⟩;have N2:=AS h2;clear h2)))
  all_goals
   go_wp2_with fail
   go_meet
   exact⟨rfl,N2.out⟩
 case rest =>
  obtain⟨rfl,hcut⟩:=hcut
  have N2:=AS hcut
  clear hcut KEEP AK N1 e0_ e1_ e2_
  cases r2
  case false =>
   go_wp2
   go_ret
   exact HRet.none N2.out
  case true =>
   (try simp only[if_true])
   have KEEP:=AS (show ∀ (h':S.Home) (bx:List (Nat×Obj)) x,GX (HomeK c h' b_ bm bq) 2 K w bx x->(g,(.cells #[.int .i64 k,.int .i64 f,.int .i64 t,.int .i64 b,.int .i64 qq,.int .i64 wh,.bool wr,.int .i64 c0,.bool oo,.bool hh,.int .i64 dd] 47:Obj))∈bx->(x.cell? ⟨b_,0,none⟩=some (.int .i64 c.nodes)/\x.cell? ⟨g,3,none⟩=some (.int .i64 b)/\x.cell? ⟨g,4,none⟩=some (.int .i64 qq)) from fun h' bx x hx m0=>by
    have h11:=hx.blkH
    have hb0:=hx.at_ m0
    exact⟨cw h11 0,cw hb0 3,cw hb0 4⟩)
   go_upto_region 3 with fail
   have hS_:=KEEP.out _ _ _ N2.out (by simp)
   have e0_:=hS_.1
   have e1_:=hS_.2.1
   have e2_:=hS_.2.2
   clear hS_
   have SP:=AS (spread_any 6 c.nodes b qq 0 c.nodes wc.drew)
   generalize spread 6 c.nodes b qq 0 c.nodes=sp at *
   go_region_held3 (fun x=>x.cell? ⟨b_,0,none⟩=some (.int .i64 c.nodes)/\x.cell? ⟨g,3,none⟩=some (.int .i64 b)/\x.cell? ⟨g,4,none⟩=some (.int .i64 qq)) (((try dsimp only);(first | (apply KEEP.out;(focus (first | (with_reducible apply N3.out) | (with_reducible apply N2.out) | (with_reducible apply (GX.drew (homeStays _ _ _ _ _) N2.out))));(all_goals simp))))) ((first | (go_at_call 127;refine SP.out.mono ?_;rintro e w3 ⟨v,rfl,hO,hb,hf⟩;have N3:=AS (GX.below (homeStays _ _ _ _ _) N2.out ((Below.drew (Below.refl _ _)).trans (hb.mono (Nat.le_refl _))));have F3:=AS (HRet.new N2.out ((Below.drew (Below.refl _ _)).trans (hb.mono (Nat.le_refl _))) hO hf);clear hO hb hf)))
   all_goals
    go_wp2
    go_ret
    exact F3.out
theorem homeAsk_any {c:Cfg} {h:S.Home} {b_ bm bq:Nat} {K:Nat->Nat} {w:Go.World} (hH:HomeK c h b_ bm bq K w) (l:Let) (d:Drw):Calls Tryz.prog 88 #[.pointer (some ⟨b_,0,none⟩),letV l,drwV d] w (HRet c (h.memTake l.block (reply c.policy (h.get l.block) l.write d).1 (reply c.policy (h.get l.block) l.write d).2.1 (reply c.policy (h.get l.block) l.write d).2.2).1 (Home.tokens c l.src l.block (h.memTake l.block (reply c.policy (h.get l.block) l.write d).1 (reply c.policy (h.get l.block) l.write d).2.1 (reply c.policy (h.get l.block) l.write d).2.2).2) b_ bm bq K w):=by
 obtain⟨k,f,t,b,qq,wh,wr,⟨c0,oo,hh,dd⟩⟩:=l
 obtain⟨d0,d1,d2⟩:=d
 have N1:=AS (GX.box (homeStays _ _ _ _ _) (GX.box (homeStays _ _ _ _ _) (GX.refl (m:=2) hH) (.cells #[.int .i64 k,.int .i64 f,.int .i64 t,.int .i64 b,.int .i64 qq,.int .i64 wh,.bool wr,.int .i64 c0,.bool oo,.bool hh,.int .i64 dd] 47)) (.cells #[.int .i64 d0,.int .i64 d1,.int .i64 d2] 74))
 rw[show(w.alloc (.cells #[.int .i64 k,.int .i64 f,.int .i64 t,.int .i64 b,.int .i64 qq,.int .i64 wh,.bool wr,.int .i64 c0,.bool oo,.bool hh,.int .i64 dd] 47)).heap.size=w.heap.size+1 by simp] at N1
 show Calls Tryz.prog 88 #[.pointer (some ⟨b_,0,none⟩),.agg #[.int .i64 k,.int .i64 f,.int .i64 t,.int .i64 b,.int .i64 qq,.int .i64 wh,.bool wr,.int .i64 c0,.bool oo,.bool hh,.int .i64 dd],.agg #[.int .i64 d0,.int .i64 d1,.int .i64 d2]] w (HRet c (h.memTake b (reply c.policy (h.get b) wr ⟨d0,d1,d2⟩).1 (reply c.policy (h.get b) wr ⟨d0,d1,d2⟩).2.1 (reply c.policy (h.get b) wr ⟨d0,d1,d2⟩).2.2).1 (Home.tokens c f b (h.memTake b (reply c.policy (h.get b) wr ⟨d0,d1,d2⟩).1 (reply c.policy (h.get b) wr ⟨d0,d1,d2⟩).2.1 (reply c.policy (h.get b) wr ⟨d0,d1,d2⟩).2.2).2) b_ bm bq K w)
 clear hH
 go_enter Tryz.func88,Tryz.ntmps88
 go_upto_region 1 with fail
 generalize ((w.alloc (.cells #[.int .i64 k,.int .i64 f,.int .i64 t,.int .i64 b,.int .i64 qq,.int .i64 wh,.bool wr,.int .i64 c0,.bool oo,.bool hh,.int .i64 dd] 47)).alloc (.cells #[.int .i64 d0,.int .i64 d1,.int .i64 d2] 74))=W at N1 ⊢
 generalize hg:w.heap.size=g at *
 have KEEP:=AS (show ∀ (h':S.Home) (bx:List (Nat×Obj)) x,GX (HomeK c h' b_ bm bq) 2 K w bx x->(g,(.cells #[.int .i64 k,.int .i64 f,.int .i64 t,.int .i64 b,.int .i64 qq,.int .i64 wh,.bool wr,.int .i64 c0,.bool oo,.bool hh,.int .i64 dd] 47:Obj))∈bx->(g+1,(.cells #[.int .i64 d0,.int .i64 d1,.int .i64 d2] 74:Obj))∈bx->(x.cell? ⟨b_,8,none⟩=some (.int .i64 c.policy)/\x.cell? ⟨b_,9,none⟩=some (.pointer (some ⟨bm,0,none⟩))/\x.cell? ⟨g,3,none⟩=some (.int .i64 b)/\x.cell? ⟨g,6,none⟩=some (.bool wr)/\x.cell? ⟨g+1,0,none⟩=some (.int .i64 d0)/\x.cell? ⟨g+1,1,none⟩=some (.int .i64 d1)/\x.cell? ⟨g+1,2,none⟩=some (.int .i64 d2)) from fun h' bx x hx m0 m1=>by
  have h11:=hx.blkH
  have hb0:=hx.at_ m0
  have hb1:=hx.at_ m1
  exact⟨cw h11 8,cw h11 9,cw hb0 3,cw hb0 6,cw hb1 0,cw hb1 1,cw hb1 2⟩)
 have hS_:=KEEP.out _ _ _ N1.out (by simp) (by simp)
 have e0_:=hS_.1
 have e1_:=hS_.2.1
 have e2_:=hS_.2.2.1
 have e3_:=hS_.2.2.2.1
 have e4_:=hS_.2.2.2.2.1
 have e5_:=hS_.2.2.2.2.2.1
 have e6_:=hS_.2.2.2.2.2.2
 clear hS_
 have GET:=AS (show ∀ W',Below W.heap.size W W'->Calls Tryz.prog 122 #[.pointer (some ⟨bm,0,none⟩),.int .i64 b] W' (RV (bunV (h.get b)) W') from fun W' hb=>(GX.below (homeStays _ _ _ _ _) N1.out hb).have_ fun K1 hh=>by rw[get_mem];exact memGet_any hh.2.2.1 b)
 generalize hgot:h.get b=got at *
 obtain⟨h0,h1,h2,h3⟩:=got
 simp only[bunV] at GET
 generalize hre:reply c.policy ⟨h0,h1,h2,h3⟩ wr ⟨d0,d1,d2⟩=re at *
 obtain⟨p0,p1,p2⟩:=re
 have HRE2:=AS hre
 clear hre hgot
 simp only
 go_cut [7,8,9] (fun v7 v8 v9 wx=>v7=.int .i64 p0/\v8=.bool p1/\v9=.bool p2/\GX (HomeK c h b_ bm bq) 2 K w [(g+1,(.cells #[.int .i64 d0,.int .i64 d1,.int .i64 d2] 74:Obj)),(g,(.cells #[.int .i64 k,.int .i64 f,.int .i64 t,.int .i64 b,.int .i64 qq,.int .i64 wh,.bool wr,.int .i64 c0,.bool oo,.bool hh,.int .i64 dd] 47:Obj))] wx)
 case first =>
  go_region_held3 (fun x=>x.cell? ⟨b_,8,none⟩=some (.int .i64 c.policy)/\x.cell? ⟨b_,9,none⟩=some (.pointer (some ⟨bm,0,none⟩))/\x.cell? ⟨g,3,none⟩=some (.int .i64 b)/\x.cell? ⟨g,6,none⟩=some (.bool wr)/\x.cell? ⟨g+1,0,none⟩=some (.int .i64 d0)/\x.cell? ⟨g+1,1,none⟩=some (.int .i64 d1)/\x.cell? ⟨g+1,2,none⟩=some (.int .i64 d2)) (((try dsimp only);(first | (apply KEEP.out;(focus (first | (with_reducible apply N5.out) | (with_reducible apply N4.out) | (with_reducible apply N1.out) | (with_reducible apply (GX.drew (homeStays _ _ _ _ _) N1.out))));(all_goals simp))))) ((first | (go_at_call 122;refine(GET.out _ (Below.drew (Below.refl _ _))).mono ?_;rintro e w4 ⟨rfl,hb4⟩;have N4:=AS (GX.below (homeStays _ _ _ _ _) N1.out ((Below.drew (Below.refl _ _)).trans (hb4.mono (Nat.le_refl _))));clear hb4) | (go_at_call 121;refine(reply_any _ _ _ _ _ _ _ _ _ _).mono ?_;rintro e w5 ⟨rfl,hb5⟩;rw[HRE2.out];simp only[repV];have N5:=AS (GX.below (homeStays _ _ _ _ _) N4.out hb5);clear hb5)))
  all_goals
   go_wp2_with fail
   go_meet
   exact⟨rfl,rfl,rfl,N5.out⟩
 case rest =>
  obtain⟨rfl,rfl,rfl,hcut⟩:=hcut
  have N2:=AS hcut
  clear hcut KEEP GET N1 HRE2 e0_ e1_ e2_ e3_ e4_ e5_ e6_
  have TK:=AS ((GX.drew (homeStays _ _ _ _ _) N2.out).call (fun K1 hh=>hh.take b p0 p1 p2))
  generalize h.memTake b p0 p1 p2=tk at *
  obtain⟨th,t0,t1,t2,t3⟩:=tk
  simp only[bunV] at TK
  (try simp only)
  have TO:=AS (show ∀ bx W',GX (HomeK c th b_ bm bq) 2 K w bx W'->Calls Tryz.prog 119 #[.pointer (some ⟨b_,0,none⟩),.int .i64 f,.int .i64 b,.agg #[.int .i64 t0,.bool t1,.bool t2,.int .i64 t3]] W' (NewRow letE (Home.tokens c f b ⟨t0,t1,t2,t3⟩) W') from fun bx W' hx=>homeTokens_any hx.blkH f b ⟨t0,t1,t2,t3⟩)
  generalize Home.tokens c f b ⟨t0,t1,t2,t3⟩=tl at *
  have KEEP:=AS (show ∀ (h':S.Home) (bx:List (Nat×Obj)) x,GX (HomeK c h' b_ bm bq) 2 K w bx x->(g,(.cells #[.int .i64 k,.int .i64 f,.int .i64 t,.int .i64 b,.int .i64 qq,.int .i64 wh,.bool wr,.int .i64 c0,.bool oo,.bool hh,.int .i64 dd] 47:Obj))∈bx->(x.cell? ⟨b_,9,none⟩=some (.pointer (some ⟨bm,0,none⟩))/\x.cell? ⟨g,1,none⟩=some (.int .i64 f)/\x.cell? ⟨g,3,none⟩=some (.int .i64 b)) from fun h' bx x hx m0=>by
   have h11:=hx.blkH
   have hb0:=hx.at_ m0
   exact⟨cw h11 9,cw hb0 1,cw hb0 3⟩)
  go_upto_region 2 with fail
  have hS_:=KEEP.out _ _ _ N2.out (by simp)
  have e0_:=hS_.1
  have e1_:=hS_.2.1
  have e2_:=hS_.2.2
  clear hS_
  go_region_held3 (fun x=>x.cell? ⟨b_,9,none⟩=some (.pointer (some ⟨bm,0,none⟩))/\x.cell? ⟨g,1,none⟩=some (.int .i64 f)/\x.cell? ⟨g,3,none⟩=some (.int .i64 b)) (((try dsimp only);(first | (apply KEEP.out;(focus (first | (with_reducible apply N5.out) | (with_reducible apply N4.out) | (with_reducible apply N2.out) | (with_reducible apply (GX.drew (homeStays _ _ _ _ _) N2.out))));(all_goals simp))))) ((first | (go_at_call 123;refine TK.out.mono ?_;rintro e w4 ⟨rfl,h4⟩;have N4:=AS h4;clear h4) | (go_at_call 119;refine(TO.out _ _ N4.out).mono ?_;rintro e w5 ⟨v,rfl,hO,hf,hb⟩;have N5:=AS (GX.below (homeStays _ _ _ _ _) N4.out hb);have F5:=AS (HRet.new N4.out hb hO hf);clear hO hb hf)))
  all_goals
   go_wp2
   go_ret
   exact F5.out
theorem homeCome_any {c:Cfg} {h:S.Home} {b_ bm bq:Nat} {K:Nat->Nat} {w:Go.World} (hH:HomeK c h b_ bm bq K w) (l:Let) (d:Drw):Calls Tryz.prog 87 #[.pointer (some ⟨b_,0,none⟩),letV l,drwV d] w (HRet c (match h.queue.current l.block with | some _=>h | none=>h.put l.block l.bun) (match h.queue.current l.block with | some a=>Home.tokens c a.node l.block l.bun | none=>[]) b_ bm bq K w):=by
 obtain⟨k,f,t,b,qq,wh,wr,⟨c0,oo,hh,dd⟩⟩:=l
 obtain⟨d0,d1,d2⟩:=d
 have N1:=AS (GX.box (homeStays _ _ _ _ _) (GX.box (homeStays _ _ _ _ _) (GX.refl (m:=2) hH) (.cells #[.int .i64 k,.int .i64 f,.int .i64 t,.int .i64 b,.int .i64 qq,.int .i64 wh,.bool wr,.int .i64 c0,.bool oo,.bool hh,.int .i64 dd] 47)) (.cells #[.int .i64 d0,.int .i64 d1,.int .i64 d2] 74))
 rw[show(w.alloc (.cells #[.int .i64 k,.int .i64 f,.int .i64 t,.int .i64 b,.int .i64 qq,.int .i64 wh,.bool wr,.int .i64 c0,.bool oo,.bool hh,.int .i64 dd] 47)).heap.size=w.heap.size+1 by simp] at N1
 show Calls Tryz.prog 87 #[.pointer (some ⟨b_,0,none⟩),.agg #[.int .i64 k,.int .i64 f,.int .i64 t,.int .i64 b,.int .i64 qq,.int .i64 wh,.bool wr,.int .i64 c0,.bool oo,.bool hh,.int .i64 dd],.agg #[.int .i64 d0,.int .i64 d1,.int .i64 d2]] w (HRet c (match h.queue.current b with | some _=>h | none=>h.put b ⟨c0,oo,hh,dd⟩) (match h.queue.current b with | some a=>Home.tokens c a.node b ⟨c0,oo,hh,dd⟩ | none=>[]) b_ bm bq K w)
 obtain⟨R1,hR1⟩:∃ R1,R1=(match h.queue.current b with | some _=>h | none=>h.put b ⟨c0,oo,hh,dd⟩):=⟨_,rfl⟩
 obtain⟨R2,hR2⟩:∃ R2,R2=(match h.queue.current b with | some a=>Home.tokens c a.node b ⟨c0,oo,hh,dd⟩ | none=>[]):=⟨_,rfl⟩
 rw[<- hR1,<- hR2]
 have HR:=AS (And.intro hR1 hR2)
 clear hR1 hR2
 clear hH
 go_enter Tryz.func87,Tryz.ntmps87
 go_upto_region 1 with fail
 generalize ((w.alloc (.cells #[.int .i64 k,.int .i64 f,.int .i64 t,.int .i64 b,.int .i64 qq,.int .i64 wh,.bool wr,.int .i64 c0,.bool oo,.bool hh,.int .i64 dd] 47)).alloc (.cells #[.int .i64 d0,.int .i64 d1,.int .i64 d2] 74))=W at N1 ⊢
 generalize hg:w.heap.size=g at *
 have KEEP:=AS (show ∀ (h':S.Home) (bx:List (Nat×Obj)) x,GX (HomeK c h' b_ bm bq) 2 K w bx x->(g,(.cells #[.int .i64 k,.int .i64 f,.int .i64 t,.int .i64 b,.int .i64 qq,.int .i64 wh,.bool wr,.int .i64 c0,.bool oo,.bool hh,.int .i64 dd] 47:Obj))∈bx->(x.cell? ⟨b_,10,none⟩=some (.pointer (some ⟨bq,0,none⟩))/\x.cell? ⟨g,3,none⟩=some (.int .i64 b)) from fun h' bx x hx m0=>by
  have h11:=hx.blkH
  have hb0:=hx.at_ m0
  exact⟨cw h11 10,cw hb0 3⟩)
 have hS_:=KEEP.out _ _ _ N1.out (by simp)
 have e0_:=hS_.1
 have e1_:=hS_.2
 clear hS_
 have CUR:=AS (show ∀ W',Below W.heap.size W W'->Calls Tryz.prog 118 #[.pointer (some ⟨bq,0,none⟩),.int .i64 b] W' (RV (actO (h.queue.current b)) W') from fun W' hb=>(GX.below (homeStays _ _ _ _ _) N1.out hb).have_ fun K1 hh=>arbCurrent_any hh.2.2.2 b)
 generalize h.queue.current b=cu at *
 have HCU:=AS (show actO cu=.tuple #[actV (cu.getD act0),.bool cu.isSome] from rfl)
 rw[HCU.out] at CUR
 generalize hca:cu.getD act0=ca at *
 generalize hcs:cu.isSome=cs at *
 obtain⟨a0,a1,a2⟩:=ca
 simp only[actV] at CUR
 clear HCU
 go_cut [7,8] (fun v7 v8 wx=>∃ a,v7=.pointer (some ⟨a,0,none⟩)/\v8=.bool cs/\GX (HomeK c h b_ bm bq) 2 K w ((a,(.cells #[.int .i64 a0,.int .i64 a1,.int .i64 a2] 55:Obj)) :: [(g+1,(.cells #[.int .i64 d0,.int .i64 d1,.int .i64 d2] 74:Obj)),(g,(.cells #[.int .i64 k,.int .i64 f,.int .i64 t,.int .i64 b,.int .i64 qq,.int .i64 wh,.bool wr,.int .i64 c0,.bool oo,.bool hh,.int .i64 dd] 47:Obj))]) wx)
 case first =>
  go_region_held3 (fun x=>x.cell? ⟨b_,10,none⟩=some (.pointer (some ⟨bq,0,none⟩))/\x.cell? ⟨g,3,none⟩=some (.int .i64 b)) (((try dsimp only);(apply KEEP.out;(focus (first | (with_reducible apply N4.out) | (with_reducible apply N1.out) | (with_reducible apply (GX.drew (homeStays _ _ _ _ _) N1.out)) | (refine GX.below (homeStays _ _ _ _ _) N4.out ?_;(repeat (first | with_reducible exact Below.refl _ _ | with_reducible apply below_alloc | with_reducible apply Below.drew | refine Below.setCell ?_ (by dsimp only;omega) _));done) | (refine GX.below (homeStays _ _ _ _ _) N1.out ?_;(repeat (first | with_reducible exact Below.refl _ _ | with_reducible apply below_alloc | with_reducible apply Below.drew | refine Below.setCell ?_ (by dsimp only;omega) _));done) | (refine GX.pass (homeStays _ _ _ _ _) N4.out ?_;(repeat (with_reducible first | exact KS.refl _ _ | apply KS.drew | apply KS.set1));done)));(all_goals simp)))) ((first | (go_at_call 118;refine(CUR.out W.drew (Below.drew (Below.refl _ _))).mono ?_;rintro e w4 ⟨rfl,hb⟩;have N4:=AS (show GX (HomeK c h b_ bm bq) 2 K w [(g+1,(.cells #[.int .i64 d0,.int .i64 d1,.int .i64 d2] 74:Obj)),(g,(.cells #[.int .i64 k,.int .i64 f,.int .i64 t,.int .i64 b,.int .i64 qq,.int .i64 wh,.bool wr,.int .i64 c0,.bool oo,.bool hh,.int .i64 dd] 47:Obj))] w4 from GX.below (homeStays _ _ _ _ _) N1.out ((Below.drew (Below.refl _ _)).trans (hb.mono (Nat.le_refl _))));clear hb;have Z:=AS (show(w4.alloc (.cells #[.int .i64 0,.int .i64 0,.int .i64 0] 55)).heap[w4.heap.size]?=some (.cells #[.int .i64 0,.int .i64 0,.int .i64 0] 55) from blk_new w4 _);have z0:(w4.alloc (.cells #[.int .i64 0,.int .i64 0,.int .i64 0] 55)).cell? ⟨w4.heap.size,0,none⟩=some (.int .i64 0):=cw Z.out 0;have zz0:(w4.alloc (.cells #[.int .i64 0,.int .i64 0,.int .i64 0] 55)).frozen? ⟨w4.heap.size,0,none⟩=false:=blk_frozen Z.out 0;have z1:(w4.alloc (.cells #[.int .i64 0,.int .i64 0,.int .i64 0] 55)).cell? ⟨w4.heap.size,1,none⟩=some (.int .i64 0):=cw Z.out 1;have zz1:(w4.alloc (.cells #[.int .i64 0,.int .i64 0,.int .i64 0] 55)).frozen? ⟨w4.heap.size,1,none⟩=false:=blk_frozen Z.out 1;have z2:(w4.alloc (.cells #[.int .i64 0,.int .i64 0,.int .i64 0] 55)).cell? ⟨w4.heap.size,2,none⟩=some (.int .i64 0):=cw Z.out 2;have zz2:(w4.alloc (.cells #[.int .i64 0,.int .i64 0,.int .i64 0] 55)).frozen? ⟨w4.heap.size,2,none⟩=false:=blk_frozen Z.out 2) | (go_at_call 118;refine(CUR.out (W.drew.alloc (.cells #[.int .i64 0,.int .i64 0,.int .i64 0] 55)) (below_alloc (Below.drew (Below.refl _ _)) _)).mono ?_;rintro e w4 ⟨rfl,hb⟩;have N4:=AS (show GX (HomeK c h b_ bm bq) 2 K w ((W.heap.size,(.cells #[.int .i64 0,.int .i64 0,.int .i64 0] 55:Obj)) :: [(g+1,(.cells #[.int .i64 d0,.int .i64 d1,.int .i64 d2] 74:Obj)),(g,(.cells #[.int .i64 k,.int .i64 f,.int .i64 t,.int .i64 b,.int .i64 qq,.int .i64 wh,.bool wr,.int .i64 c0,.bool oo,.bool hh,.int .i64 dd] 47:Obj))]) w4 from GX.below (homeStays _ _ _ _ _) (GX.box (homeStays _ _ _ _ _) (GX.drew (homeStays _ _ _ _ _) N1.out) (.cells #[.int .i64 0,.int .i64 0,.int .i64 0] 55)) hb);clear hb;have Z:=AS (show w4.heap[W.heap.size]?=some (.cells #[.int .i64 0,.int .i64 0,.int .i64 0] 55) from N4.out.at_ (List.mem_cons_self));have z0:w4.cell? ⟨W.heap.size,0,none⟩=some (.int .i64 0):=cw Z.out 0;have zz0:=blk_frozen Z.out 0;have z1:w4.cell? ⟨W.heap.size,1,none⟩=some (.int .i64 0):=cw Z.out 1;have zz1:w4.frozen? ⟨W.heap.size,1,none⟩=false:=blk_frozen Z.out 1;have z2:w4.cell? ⟨W.heap.size,2,none⟩=some (.int .i64 0):=cw Z.out 2;have zz2:w4.frozen? ⟨W.heap.size,2,none⟩=false:=blk_frozen Z.out 2)))
  all_goals
   go_wp2_with fail
   go_meet
   refine⟨_,rfl,rfl,?_⟩
   first
    | (with_reducible apply GX.put (homeStays _ _ _ _ _) N4.out;(focus ((repeat (with_reducible first | exact KS.refl _ _ | apply KS.drew | apply KS.set1));done));exact(blk_set (blk_set (blk_set Z.out 0 _) 1 _) 2 _).trans (by simp))
    | (with_reducible apply GX.new (homeStays _ _ _ _ _) N4.out;(focus ((repeat (first | with_reducible exact Below.refl _ _ | with_reducible apply below_alloc | with_reducible apply Below.drew | refine Below.setCell ?_ (by dsimp only;omega) _));done));(focus (exact Nat.le_refl _));exact(blk_set (blk_set (blk_set Z.out 0 _) 1 _) 2 _).trans (by simp))
    | with_reducible apply GX.box (homeStays _ _ _ _ _) N4.out
 case rest =>
  obtain⟨a,rfl,rfl,hcut⟩:=hcut
  have N2:=AS hcut
  clear hcut KEEP CUR N1 e0_ e1_
  cases cs
  case true =>
   obtain rfl:cu=some ⟨a0,a1,a2⟩:=by cases cu with | none=>simp at hcs | some x=>simp at hca;rw[hca]
   (try simp only)
   have k1:=cw (N2.out.at_ (g:=a) (ob:=.cells #[.int .i64 a0,.int .i64 a1,.int .i64 a2] 55) (by simp)) 1 (v:=.int .i64 a1)
   have l3:=cw (N2.out.at_ (g:=g) (ob:=.cells #[.int .i64 k,.int .i64 f,.int .i64 t,.int .i64 b,.int .i64 qq,.int .i64 wh,.bool wr,.int .i64 c0,.bool oo,.bool hh,.int .i64 dd] 47) (by simp)) 3 (v:=.int .i64 b)
   have l7:=cw (N2.out.at_ (g:=g) (ob:=.cells #[.int .i64 k,.int .i64 f,.int .i64 t,.int .i64 b,.int .i64 qq,.int .i64 wh,.bool wr,.int .i64 c0,.bool oo,.bool hh,.int .i64 dd] 47) (by simp)) 7 (v:=.int .i64 c0)
   have l8:=cw (N2.out.at_ (g:=g) (ob:=.cells #[.int .i64 k,.int .i64 f,.int .i64 t,.int .i64 b,.int .i64 qq,.int .i64 wh,.bool wr,.int .i64 c0,.bool oo,.bool hh,.int .i64 dd] 47) (by simp)) 8 (v:=.bool oo)
   have l9:=cw (N2.out.at_ (g:=g) (ob:=.cells #[.int .i64 k,.int .i64 f,.int .i64 t,.int .i64 b,.int .i64 qq,.int .i64 wh,.bool wr,.int .i64 c0,.bool oo,.bool hh,.int .i64 dd] 47) (by simp)) 9 (v:=.bool hh)
   have l10:=cw (N2.out.at_ (g:=g) (ob:=.cells #[.int .i64 k,.int .i64 f,.int .i64 t,.int .i64 b,.int .i64 qq,.int .i64 wh,.bool wr,.int .i64 c0,.bool oo,.bool hh,.int .i64 dd] 47) (by simp)) 10 (v:=.int .i64 dd)
   have TO:=AS (homeTokens_any N2.out.blkH a1 b ⟨c0,oo,hh,dd⟩)
   simp only[bunV] at TO
   go_wp2_with fail
   refine TO.out.mono ?_
   rintro e w5 ⟨v,rfl,hO,hf,hb⟩
   have F5:=AS (HRet.new N2.out hb hO hf)
   clear hO hf hb
   go_wp2
   go_ret
   rw[HR.out.1,HR.out.2]
   exact F5.out
  case false =>
   obtain rfl:cu=none:=by cases cu with | none=>rfl | some x=>simp at hcs
   (try simp only)
   have PT:=AS ((GX.drew (homeStays _ _ _ _ _) N2.out).call (fun K1 hx=>hx.mput b ⟨c0,oo,hh,dd⟩))
   simp only[bunV] at PT
   have KEEP:=AS (show ∀ (h':S.Home) (bx:List (Nat×Obj)) x,GX (HomeK c h' b_ bm bq) 2 K w bx x->(g,(.cells #[.int .i64 k,.int .i64 f,.int .i64 t,.int .i64 b,.int .i64 qq,.int .i64 wh,.bool wr,.int .i64 c0,.bool oo,.bool hh,.int .i64 dd] 47:Obj))∈bx->(x.cell? ⟨b_,9,none⟩=some (.pointer (some ⟨bm,0,none⟩))/\x.cell? ⟨g,3,none⟩=some (.int .i64 b)/\x.cell? ⟨g,7,none⟩=some (.int .i64 c0)/\x.cell? ⟨g,8,none⟩=some (.bool oo)/\x.cell? ⟨g,9,none⟩=some (.bool hh)/\x.cell? ⟨g,10,none⟩=some (.int .i64 dd)) from fun h' bx x hx m0=>by
    have h11:=hx.blkH
    have hb0:=hx.at_ m0
    exact⟨cw h11 9,cw hb0 3,cw hb0 7,cw hb0 8,cw hb0 9,cw hb0 10⟩)
   go_upto_region 4 with fail
   have hS_:=KEEP.out _ _ _ N2.out (by simp)
   have e0_:=hS_.1
   have e1_:=hS_.2.1
   have e2_:=hS_.2.2.1
   have e3_:=hS_.2.2.2.1
   have e4_:=hS_.2.2.2.2.1
   have e5_:=hS_.2.2.2.2.2
   clear hS_
   go_region_held3 (fun x=>x.cell? ⟨b_,9,none⟩=some (.pointer (some ⟨bm,0,none⟩))/\x.cell? ⟨g,3,none⟩=some (.int .i64 b)/\x.cell? ⟨g,7,none⟩=some (.int .i64 c0)/\x.cell? ⟨g,8,none⟩=some (.bool oo)/\x.cell? ⟨g,9,none⟩=some (.bool hh)/\x.cell? ⟨g,10,none⟩=some (.int .i64 dd)) (((try dsimp only);(first | (apply KEEP.out;(focus (first | (with_reducible apply N4.out) | (with_reducible apply N2.out) | (with_reducible apply (GX.drew (homeStays _ _ _ _ _) N2.out))));(all_goals simp))))) ((first | (go_at_call 120;refine PT.out.mono ?_;rintro e w4 ⟨rfl,h4⟩;have N4:=AS h4;clear h4)))
   all_goals
    go_wp2
    go_ret
    rw[HR.out.1,HR.out.2]
    exact HRet.none N4.out
end Go.Proofs.YtiebppkhaiofeaaGreat.K
