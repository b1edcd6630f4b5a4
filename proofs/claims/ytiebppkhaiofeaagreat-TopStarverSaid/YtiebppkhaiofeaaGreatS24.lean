/- Part of the proof of TopStarver: what functions of the program do. -/
import Derived.Test.YtiebppkhaiofeaaGreatS13
set_option maxHeartbeats 4000000
set_option maxRecDepth 100000
set_option linter.unusedVariables false
set_option linter.unusedSimpArgs false
namespace Go.Proofs.YtiebppkhaiofeaaGreat.K
open Go.RowKit Go.Proofs.YtiebppkhaiofeaaGreatW.PrintWords Go.Proofs.YtiebppkhaiofeaaGreat.S
attribute [local go_sem] World.cell?_alloc_some
open Go.ChangeMaps Go.MapKept
theorem nodeAsks_any {c:Cfg} {n:S.Node} {o:S.Out} {p:NPtr} {K:Nat->Nat} {w:Go.World} (hN:NO c n o p K w) (hl:o.letters.length≤1000000) (l:Let) (d:Drw):Calls Tryz.prog 93 #[.pointer (some ⟨p.b,0,none⟩),letV l,drwV d,.pointer (some ⟨p.q,0,none⟩)] w (NOP (.tuple #[]) c (n.asks c l d o).1 (n.asks c l d o).2 p K w):=by
 obtain⟨k,f,t,b,qq,wh,wr,⟨c0,oo,hh,dd⟩⟩:=l
 obtain⟨d0,d1,d2⟩:=d
 have HL:=AS (And.intro hl hl)
 have CE:=AS (show ∀ (n':S.Node) (W':Go.World),n'.id=n.id->W'.heap[p.b]?=some (.cells (nodeC c n' p) 133 (0,0))->(W'.cell? ⟨p.b,0,none⟩=some (.int .i64 c.nodes)/\W'.cell? ⟨p.b,1,none⟩=some (.int .i64 c.blocks)/\W'.cell? ⟨p.b,2,none⟩=some (.int .i64 c.tokens)/\W'.cell? ⟨p.b,3,none⟩=some (.int .i64 c.sets)/\W'.cell? ⟨p.b,4,none⟩=some (.int .i64 c.ways)/\W'.cell? ⟨p.b,5,none⟩=some (.int .i64 c.cap)/\W'.cell? ⟨p.b,6,none⟩=some (.int .i64 c.wait)/\W'.cell? ⟨p.b,7,none⟩=some (.int .i64 c.tries)/\W'.cell? ⟨p.b,8,none⟩=some (.int .i64 c.policy)/\W'.cell? ⟨p.b,9,none⟩=some (.int .i64 n.id)/\W'.cell? ⟨p.b,10,none⟩=some (.pointer (some ⟨p.bc,0,none⟩))/\W'.cell? ⟨p.b,11,none⟩=some (.pointer (some ⟨p.bt,0,none⟩))/\W'.cell? ⟨p.b,12,none⟩=some (.pointer (some ⟨p.bp,0,none⟩))/\W'.cell? ⟨p.b,13,none⟩=some (.map (some p.ba))/\W'.cell? ⟨p.b,14,none⟩=some (.map (some p.bo))) from fun n' W' hi h=>⟨cw h 0,cw h 1,cw h 2,cw h 3,cw h 4,cw h 5,cw h 6,cw h 7,cw h 8,by rw[<- hi];exact(cw h 9),cw h 10,cw h 11,cw h 12,cw h 13,cw h 14⟩)
 have N1:=AS (((NS.refl hN).nx.box (.cells #[.int .i64 k,.int .i64 f,.int .i64 t,.int .i64 b,.int .i64 qq,.int .i64 wh,.bool wr,.int .i64 c0,.bool oo,.bool hh,.int .i64 dd] 47)).box (.cells #[.int .i64 d0,.int .i64 d1,.int .i64 d2] 74))
 rw[show(w.alloc (.cells #[.int .i64 k,.int .i64 f,.int .i64 t,.int .i64 b,.int .i64 qq,.int .i64 wh,.bool wr,.int .i64 c0,.bool oo,.bool hh,.int .i64 dd] 47)).heap.size=w.heap.size+1 by simp] at N1
 show Calls Tryz.prog 93 #[.pointer (some ⟨p.b,0,none⟩),.agg #[.int .i64 k,.int .i64 f,.int .i64 t,.int .i64 b,.int .i64 qq,.int .i64 wh,.bool wr,.int .i64 c0,.bool oo,.bool hh,.int .i64 dd],.agg #[.int .i64 d0,.int .i64 d1,.int .i64 d2],.pointer (some ⟨p.q,0,none⟩)] w (NOP (.tuple #[]) c (n.asks c ⟨k,f,t,b,qq,wh,wr,⟨c0,oo,hh,dd⟩⟩ ⟨d0,d1,d2⟩ o).1 (n.asks c ⟨k,f,t,b,qq,wh,wr,⟨c0,oo,hh,dd⟩⟩ ⟨d0,d1,d2⟩ o).2 p K w)
 have HR:=AS (show n.asks c ⟨k,f,t,b,qq,wh,wr,⟨c0,oo,hh,dd⟩⟩ ⟨d0,d1,d2⟩ o=if (n.own b).isSome=true/\n.cpu.pinned=b then (n,o) else ({ n with lines:=(n.lines.take c b (reply c.policy (n.lines.tok b) wr ⟨d0,d1,d2⟩).1 (reply c.policy (n.lines.tok b) wr ⟨d0,d1,d2⟩).2.1 (reply c.policy (n.lines.tok b) wr ⟨d0,d1,d2⟩).2.2).1 },if (n.lines.take c b (reply c.policy (n.lines.tok b) wr ⟨d0,d1,d2⟩).1 (reply c.policy (n.lines.tok b) wr ⟨d0,d1,d2⟩).2.1 (reply c.policy (n.lines.tok b) wr ⟨d0,d1,d2⟩).2.2).2.count > 0 then o.send (tokensL n.id f b (n.lines.take c b (reply c.policy (n.lines.tok b) wr ⟨d0,d1,d2⟩).1 (reply c.policy (n.lines.tok b) wr ⟨d0,d1,d2⟩).2.1 (reply c.policy (n.lines.tok b) wr ⟨d0,d1,d2⟩).2.2).2) else o) from rfl)
 generalize n.asks c ⟨k,f,t,b,qq,wh,wr,⟨c0,oo,hh,dd⟩⟩ ⟨d0,d1,d2⟩ o=R at *
 clear hN hl
 generalize hpb:p.b=pb at *
 go_enter Tryz.func93,Tryz.ntmps93
 go_upto_region 1 with fail
 generalize ((w.alloc (.cells #[.int .i64 k,.int .i64 f,.int .i64 t,.int .i64 b,.int .i64 qq,.int .i64 wh,.bool wr,.int .i64 c0,.bool oo,.bool hh,.int .i64 dd] 47)).alloc (.cells #[.int .i64 d0,.int .i64 d1,.int .i64 d2] 74))=W at N1 ⊢
 generalize hg:w.heap.size=g at *
 have K0:=AS (show ∀ (n':S.Node) (o':S.Out) (bx:List (Nat×Obj)) x,NX c n' o' p K w bx x->n'.id=n.id->(g,(.cells #[.int .i64 k,.int .i64 f,.int .i64 t,.int .i64 b,.int .i64 qq,.int .i64 wh,.bool wr,.int .i64 c0,.bool oo,.bool hh,.int .i64 dd] 47:Obj))∈bx->(x.cell? ⟨g,3,none⟩=some (.int .i64 b)) from fun n' o' bx x hx hid m0=>by
  have hb0:=hx.at_ m0
  exact(cw hb0 3))
 have hS_:=K0.out _ _ _ _ N1.out rfl (by simp)
 have e0_:=hS_
 clear hS_
 go_wp2_with fail
 have OT:=AS (show Calls Tryz.prog 133 #[.pointer (some ⟨pb,0,none⟩),.int .i64 b] W (RV (.tuple #[actV (Table.actOf n.know b),.bool (n.own b).isSome]) W) from by obtain⟨K1,-,h,-⟩:=N1.out;have:=nodeOwn_any h.1 b;rw[hpb] at this;exact this)
 generalize (n.own b).isSome=ok at *
 generalize Table.actOf n.know b=act at *
 obtain⟨a0,a1,a2⟩:=act
 simp only[actV] at OT
 refine OT.out.mono ?_
 rintro e w1 ⟨rfl,hb2⟩
 have N2':=AS (N1.out.below hb2)
 clear hb2 OT N1 e0_ K0
 go_upto_region 2 with fail
 have N2:=AS (N2'.out.below (below_alloc (Below.refl _ _) (.cells #[.int .i64 a0,.int .i64 a1,.int .i64 a2] 55)))
 clear N2'
 generalize w1.alloc (.cells #[.int .i64 a0,.int .i64 a1,.int .i64 a2] 55)=w2 at N2 ⊢
 have KEEP:=AS (show ∀ (n':S.Node) (o':S.Out) (bx:List (Nat×Obj)) x,NX c n' o' p K w bx x->n'.id=n.id->(g,(.cells #[.int .i64 k,.int .i64 f,.int .i64 t,.int .i64 b,.int .i64 qq,.int .i64 wh,.bool wr,.int .i64 c0,.bool oo,.bool hh,.int .i64 dd] 47:Obj))∈bx->(x.cell? ⟨pb,12,none⟩=some (.pointer (some ⟨p.bp,0,none⟩))/\x.cell? ⟨g,3,none⟩=some (.int .i64 b)) from fun n' o' bx x hx hid m0=>by
  have hce:=(show _ from by have h11:=hx.node;rw[hpb] at h11;exact CE.out n' _ hid h11)
  have hb0:=hx.at_ m0
  exact⟨hce.2.2.2.2.2.2.2.2.2.2.2.2.1,cw hb0 3⟩)
 have hS_:=KEEP.out _ _ _ _ N2.out rfl (by simp)
 have e0_:=hS_.1
 have e1_:=hS_.2
 clear hS_
 have PIN:=AS (show ∀ W',Below w2.heap.size w2 W'->Calls Tryz.prog 132 #[.pointer (some ⟨p.bp,0,none⟩)] W' (RQ (.int .i64 n.cpu.pinned) W') from fun W' hb=>(N2.out.below hb).have_ fun K1 h=>pinned_any h.1.2.2.2.2.1)
 generalize n.cpu.pinned=pin at *
 go_cut [31] (fun v31 wx=>v31=.bool (ok && decide (pin=b))/\NX c n o p K w [(g+1,(.cells #[.int .i64 d0,.int .i64 d1,.int .i64 d2] 74:Obj)),(g,(.cells #[.int .i64 k,.int .i64 f,.int .i64 t,.int .i64 b,.int .i64 qq,.int .i64 wh,.bool wr,.int .i64 c0,.bool oo,.bool hh,.int .i64 dd] 47:Obj))] wx)
 case first =>
  have DR:=AS (show ok=ok from rfl)
  cases ok
  case false =>
   go_region
   all_goals
    go_wp2_with fail
    go_meet
    exact⟨rfl,N2.out.drew⟩
  case true =>
   go_region_with (go_at_call 132;refine(PIN.out _ (by repeat (first | with_reducible exact Below.refl _ _ | with_reducible apply below_alloc | with_reducible apply Below.drew | refine Below.setCell ?_ (by dsimp only;omega) _))).mono ?_;rintro e w3 ⟨rfl,rfl⟩)
   all_goals
    go_wp2_with fail
    go_meet
    exact⟨by first | rfl | (simp[go_sem];done),N2.out.drew⟩
 case rest =>
  obtain⟨rfl,hcut⟩:=hcut
  have N3:=AS hcut
  clear hcut KEEP PIN N2 e0_ e1_
  by_cases hq:ok=true/\pin=b
  case pos =>
   have hr:=HR.out.trans (if_pos hq)
   have hv:(ok && decide (pin=b))=true:=by simp[hq.1,hq.2]
   rw[hv]
   go_wp2
   go_end0
   rw[hr]
   exact NOP.ns rfl N3.out.ns
  case neg =>
   have hr:=HR.out.trans (if_neg hq)
   have hv:(ok && decide (pin=b))=false:=by cases ok <;> simp_all
   rw[hv]
   clear hq hv HR
   have HR:=AS hr
   clear hr
   have GET:=AS (show ∀ W',Below wc.heap.size wc W'->Calls Tryz.prog 134 #[.pointer (some ⟨p.bc,0,none⟩),.int .i64 b] W' (RV (bunV (n.lines.tok b)) W') from fun W' hb=>(N3.out.below hb).have_ fun K1 h=>cacGet_any h.1.2.2.1 b)
   generalize hgot:n.lines.tok b=got at *
   obtain⟨h0,h1,h2,h3⟩:=got
   have HRE:=AS (show reply c.policy ⟨h0,h1,h2,h3⟩ wr ⟨d0,d1,d2⟩=reply c.policy ⟨h0,h1,h2,h3⟩ wr ⟨d0,d1,d2⟩ from rfl)
   generalize hre:reply c.policy ⟨h0,h1,h2,h3⟩ wr ⟨d0,d1,d2⟩=re at *
   obtain⟨r0,r1,r2⟩:=re
   have HRE2:=AS hre
   clear hre HRE hgot
   simp only[bunV] at GET HR
   have KEEP:=AS (show ∀ (n':S.Node) (o':S.Out) (bx:List (Nat×Obj)) x,NX c n' o' p K w bx x->n'.id=n.id->(g,(.cells #[.int .i64 k,.int .i64 f,.int .i64 t,.int .i64 b,.int .i64 qq,.int .i64 wh,.bool wr,.int .i64 c0,.bool oo,.bool hh,.int .i64 dd] 47:Obj))∈bx->(g+1,(.cells #[.int .i64 d0,.int .i64 d1,.int .i64 d2] 74:Obj))∈bx->(x.cell? ⟨pb,8,none⟩=some (.int .i64 c.policy)/\x.cell? ⟨pb,10,none⟩=some (.pointer (some ⟨p.bc,0,none⟩))/\x.cell? ⟨g,3,none⟩=some (.int .i64 b)/\x.cell? ⟨g,6,none⟩=some (.bool wr)/\x.cell? ⟨g+1,0,none⟩=some (.int .i64 d0)/\x.cell? ⟨g+1,1,none⟩=some (.int .i64 d1)/\x.cell? ⟨g+1,2,none⟩=some (.int .i64 d2)) from fun n' o' bx x hx hid m0 m1=>by
    have hce:=(show _ from by have h11:=hx.node;rw[hpb] at h11;exact CE.out n' _ hid h11)
    have hb0:=hx.at_ m0
    have hb1:=hx.at_ m1
    exact⟨hce.2.2.2.2.2.2.2.2.1,hce.2.2.2.2.2.2.2.2.2.2.1,cw hb0 3,cw hb0 6,cw hb1 0,cw hb1 1,cw hb1 2⟩)
   go_upto_region 3 with fail
   have hS_:=KEEP.out _ _ _ _ N3.out rfl (by simp) (by simp)
   have e0_:=hS_.1
   have e1_:=hS_.2.1
   have e2_:=hS_.2.2.1
   have e3_:=hS_.2.2.2.1
   have e4_:=hS_.2.2.2.2.1
   have e5_:=hS_.2.2.2.2.2.1
   have e6_:=hS_.2.2.2.2.2.2
   clear hS_
   go_cut [10,11,12] (fun v10 v11 v12 wx=>v10=.int .i64 r0/\v11=.bool r1/\v12=.bool r2/\NX c n o p K w [(g+1,(.cells #[.int .i64 d0,.int .i64 d1,.int .i64 d2] 74:Obj)),(g,(.cells #[.int .i64 k,.int .i64 f,.int .i64 t,.int .i64 b,.int .i64 qq,.int .i64 wh,.bool wr,.int .i64 c0,.bool oo,.bool hh,.int .i64 dd] 47:Obj))] wx)
   case first =>
    go_region_held3 (fun x=>x.cell? ⟨pb,8,none⟩=some (.int .i64 c.policy)/\x.cell? ⟨pb,10,none⟩=some (.pointer (some ⟨p.bc,0,none⟩))/\x.cell? ⟨g,3,none⟩=some (.int .i64 b)/\x.cell? ⟨g,6,none⟩=some (.bool wr)/\x.cell? ⟨g+1,0,none⟩=some (.int .i64 d0)/\x.cell? ⟨g+1,1,none⟩=some (.int .i64 d1)/\x.cell? ⟨g+1,2,none⟩=some (.int .i64 d2)) (((try dsimp only);apply KEEP.out;(focus (with_reducible first | apply N5.out | apply N4.out | apply N3.out | apply N3.out.drew));exact rfl;(all_goals simp))) ((first | (go_at_call 134;refine(GET.out _ (by repeat (first | with_reducible exact Below.refl _ _ | with_reducible apply below_alloc | with_reducible apply Below.drew | refine Below.setCell ?_ (by dsimp only;omega) _))).mono ?_;rintro e w4 ⟨rfl,hb4⟩;have N4:=AS (N3.out.below (show Below wc.heap.size wc w4 from(Below.drew (Below.refl _ _)).trans (hb4.mono (Nat.le_refl _))));clear hb4) | (go_at_call 121;refine(reply_any _ _ _ _ _ _ _ _ _ _).mono ?_;rintro e w5 ⟨rfl,hb5⟩;rw[HRE2.out];simp only[repV];have N5:=AS (N4.out.below hb5);clear hb5)))
    all_goals
     go_wp2_with fail
     go_meet
     exact⟨rfl,rfl,rfl,N5.out⟩
   case rest =>
    obtain⟨rfl,rfl,rfl,hcut⟩:=hcut
    have N2:=AS hcut
    clear hcut KEEP GET N3 HRE2 e0_ e1_ e2_ e3_ e4_ e5_ e6_
    rename_i w3_
    have TK:=AS (show ∀ bx W',NX c n o p K w bx W'->_ from fun bx W' h=>h.call (fun K1 h=>h.cacTake b r0 r1 r2))
    generalize n.lines.take c b r0 r1 r2=tk at *
    obtain⟨tl,t0,t1,t2,t3⟩:=tk
    simp only[bunV] at TK HR
    have KEEP:=AS (show ∀ (n':S.Node) (o':S.Out) (bx:List (Nat×Obj)) x,NX c n' o' p K w bx x->n'.id=n.id->(g,(.cells #[.int .i64 k,.int .i64 f,.int .i64 t,.int .i64 b,.int .i64 qq,.int .i64 wh,.bool wr,.int .i64 c0,.bool oo,.bool hh,.int .i64 dd] 47:Obj))∈bx->(x.cell? ⟨pb,10,none⟩=some (.pointer (some ⟨p.bc,0,none⟩))/\x.cell? ⟨g,3,none⟩=some (.int .i64 b)) from fun n' o' bx x hx hid m0=>by
     have hce:=(show _ from by have h11:=hx.node;rw[hpb] at h11;exact CE.out n' _ hid h11)
     have hb0:=hx.at_ m0
     exact⟨hce.2.2.2.2.2.2.2.2.2.2.1,cw hb0 3⟩)
    go_upto_region 4 with fail
    have hS_:=KEEP.out _ _ _ _ N2.out rfl (by simp)
    have e0_:=hS_.1
    have e1_:=hS_.2
    clear hS_
    go_cut [13] (fun v13 wx=>∃ a,v13=.pointer (some ⟨a,0,none⟩)/\NX c { n with lines:=tl } o p K w [(a,(.cells #[.int .i64 t0,.bool t1,.bool t2,.int .i64 t3] 45:Obj)),(g+1,(.cells #[.int .i64 d0,.int .i64 d1,.int .i64 d2] 74:Obj)),(g,(.cells #[.int .i64 k,.int .i64 f,.int .i64 t,.int .i64 b,.int .i64 qq,.int .i64 wh,.bool wr,.int .i64 c0,.bool oo,.bool hh,.int .i64 dd] 47:Obj))] wx)
    case first =>
     go_region_held3 (fun x=>x.cell? ⟨pb,10,none⟩=some (.pointer (some ⟨p.bc,0,none⟩))/\x.cell? ⟨g,3,none⟩=some (.int .i64 b)) (((try dsimp only);apply KEEP.out;(focus (first | with_reducible apply N4.out | with_reducible apply N2.out | with_reducible apply N2.out.drew | (refine NX.below N4.out ?_;(repeat (first | with_reducible exact Below.refl _ _ | with_reducible apply below_alloc | with_reducible apply Below.drew | refine Below.setCell ?_ (by dsimp only;omega) _));done) | (refine NX.below N2.out ?_;(repeat (first | with_reducible exact Below.refl _ _ | with_reducible apply below_alloc | with_reducible apply Below.drew | refine Below.setCell ?_ (by dsimp only;omega) _));done) | (refine NX.pass N4.out ?_;(repeat (with_reducible first | exact KS.refl _ _ | apply KS.drew | apply KS.set1));done)));exact rfl;(all_goals simp))) ((first | (go_at_call 135;refine(TK.out _ _ N2.out.drew).mono ?_;rintro e w4 ⟨rfl,h4⟩;have N4:=AS h4;clear h4;have Z:=AS (show(w4.alloc (.cells #[.int .i64 0,.bool false,.bool false,.int .i64 0] 45)).heap[w4.heap.size]?=some (.cells #[.int .i64 0,.bool false,.bool false,.int .i64 0] 45) from blk_new w4 _);have z0:(w4.alloc (.cells #[.int .i64 0,.bool false,.bool false,.int .i64 0] 45)).cell? ⟨w4.heap.size,0,none⟩=some (.int .i64 0):=cw Z.out 0;have zz0:(w4.alloc (.cells #[.int .i64 0,.bool false,.bool false,.int .i64 0] 45)).frozen? ⟨w4.heap.size,0,none⟩=false:=blk_frozen Z.out 0;have z1:(w4.alloc (.cells #[.int .i64 0,.bool false,.bool false,.int .i64 0] 45)).cell? ⟨w4.heap.size,1,none⟩=some (.bool false):=cw Z.out 1;have zz1:(w4.alloc (.cells #[.int .i64 0,.bool false,.bool false,.int .i64 0] 45)).frozen? ⟨w4.heap.size,1,none⟩=false:=blk_frozen Z.out 1;have z2:(w4.alloc (.cells #[.int .i64 0,.bool false,.bool false,.int .i64 0] 45)).cell? ⟨w4.heap.size,2,none⟩=some (.bool false):=cw Z.out 2;have zz2:(w4.alloc (.cells #[.int .i64 0,.bool false,.bool false,.int .i64 0] 45)).frozen? ⟨w4.heap.size,2,none⟩=false:=blk_frozen Z.out 2;have z3:(w4.alloc (.cells #[.int .i64 0,.bool false,.bool false,.int .i64 0] 45)).cell? ⟨w4.heap.size,3,none⟩=some (.int .i64 0):=cw Z.out 3;have zz3:(w4.alloc (.cells #[.int .i64 0,.bool false,.bool false,.int .i64 0] 45)).frozen? ⟨w4.heap.size,3,none⟩=false:=blk_frozen Z.out 3) | (go_at_call 135;refine(TK.out _ _ (N2.out.drew.box (.cells #[.int .i64 0,.bool false,.bool false,.int .i64 0] 45))).mono ?_;rintro e w4 ⟨rfl,h4⟩;have N4:=AS (show NX c { n with lines:=tl } o p K w ([(wc.heap.size,(.cells #[.int .i64 0,.bool false,.bool false,.int .i64 0] 45:Obj)),(g+1,(.cells #[.int .i64 d0,.int .i64 d1,.int .i64 d2] 74:Obj)),(g,(.cells #[.int .i64 k,.int .i64 f,.int .i64 t,.int .i64 b,.int .i64 qq,.int .i64 wh,.bool wr,.int .i64 c0,.bool oo,.bool hh,.int .i64 dd] 47:Obj))]) w4 from h4);clear h4;have Z:=AS (show w4.heap[wc.heap.size]?=some (.cells #[.int .i64 0,.bool false,.bool false,.int .i64 0] 45) from N4.out.at_ (List.mem_cons_self));have z0:w4.cell? ⟨wc.heap.size,0,none⟩=some (.int .i64 0):=cw Z.out 0;have zz0:=blk_frozen Z.out 0;have z1:w4.cell? ⟨wc.heap.size,1,none⟩=some (.bool false):=cw Z.out 1;have zz1:w4.frozen? ⟨wc.heap.size,1,none⟩=false:=blk_frozen Z.out 1;have z2:w4.cell? ⟨wc.heap.size,2,none⟩=some (.bool false):=cw Z.out 2;have zz2:w4.frozen? ⟨wc.heap.size,2,none⟩=false:=blk_frozen Z.out 2;have z3:w4.cell? ⟨wc.heap.size,3,none⟩=some (.int .i64 0):=cw Z.out 3;have zz3:w4.frozen? ⟨wc.heap.size,3,none⟩=false:=blk_frozen Z.out 3)))
     all_goals
      go_wp2_with fail
      go_meet
      refine⟨_,rfl,?_⟩
      first
       | (with_reducible apply NX.put N4.out;(focus ((repeat (with_reducible first | exact KS.refl _ _ | apply KS.drew | apply KS.set1));done));exact(blk_set (blk_set (blk_set (blk_set Z.out 0 _) 1 _) 2 _) 3 _).trans (by simp))
       | (with_reducible apply NX.new N4.out;(focus ((repeat (first | with_reducible exact Below.refl _ _ | with_reducible apply below_alloc | with_reducible apply Below.drew | refine Below.setCell ?_ (by dsimp only;omega) _));done));(focus (exact Nat.le_refl _));exact(blk_set (blk_set (blk_set (blk_set Z.out 0 _) 1 _) 2 _) 3 _).trans (by simp))
       | with_reducible apply N4.out.box
    case rest =>
     obtain⟨a,rfl,hcut⟩:=hcut
     have N5:=AS hcut
     clear hcut TK KEEP N2 e0_ e1_
     have hr:=HR.out
     by_cases hq:t0 > 0
     case pos =>
      rw[if_pos hq] at hr
      have hq':(0:Int) < t0:=by omega
      have z0:=cw (N5.out.at_ (g:=a) (ob:=.cells #[.int .i64 t0,.bool t1,.bool t2,.int .i64 t3] 45) (by simp)) 0 (v:=.int .i64 t0)
      have KEEP:=AS (show ∀ (n':S.Node) (o':S.Out) (bx:List (Nat×Obj)) x,NX c n' o' p K w bx x->n'.id=n.id->(g,(.cells #[.int .i64 k,.int .i64 f,.int .i64 t,.int .i64 b,.int .i64 qq,.int .i64 wh,.bool wr,.int .i64 c0,.bool oo,.bool hh,.int .i64 dd] 47:Obj))∈bx->(a,(.cells #[.int .i64 t0,.bool t1,.bool t2,.int .i64 t3] 45:Obj))∈bx->(x.cell? ⟨pb,9,none⟩=some (.int .i64 n.id)/\x.cell? ⟨g,1,none⟩=some (.int .i64 f)/\x.cell? ⟨g,3,none⟩=some (.int .i64 b)/\x.cell? ⟨a,0,none⟩=some (.int .i64 t0)/\x.cell? ⟨a,1,none⟩=some (.bool t1)/\x.cell? ⟨a,2,none⟩=some (.bool t2)/\x.cell? ⟨a,3,none⟩=some (.int .i64 t3)) from fun n' o' bx x hx hid m0 m1=>by
       have hce:=(show _ from by have h11:=hx.node;rw[hpb] at h11;exact CE.out n' _ hid h11)
       have hb0:=hx.at_ m0
       have hb1:=hx.at_ m1
       exact⟨hce.2.2.2.2.2.2.2.2.2.1,cw hb0 1,cw hb0 3,cw hb1 0,cw hb1 1,cw hb1 2,cw hb1 3⟩)
      go_upto_region 6 with fail
      have hS_:=KEEP.out _ _ _ _ N5.out rfl (by simp) (by simp)
      have e0_:=hS_.1
      have e1_:=hS_.2.1
      have e2_:=hS_.2.2.1
      have e3_:=hS_.2.2.2.1
      have e4_:=hS_.2.2.2.2.1
      have e5_:=hS_.2.2.2.2.2.1
      have e6_:=hS_.2.2.2.2.2.2
      clear hS_
      go_region_held3 (fun x=>x.cell? ⟨pb,9,none⟩=some (.int .i64 n.id)/\x.cell? ⟨g,1,none⟩=some (.int .i64 f)/\x.cell? ⟨g,3,none⟩=some (.int .i64 b)/\x.cell? ⟨a,0,none⟩=some (.int .i64 t0)/\x.cell? ⟨a,1,none⟩=some (.bool t1)/\x.cell? ⟨a,2,none⟩=some (.bool t2)/\x.cell? ⟨a,3,none⟩=some (.int .i64 t3)) (((try dsimp only);apply KEEP.out;(focus (with_reducible first | apply N7.out | apply N6.out | apply N5.out | apply N5.out.drew));exact rfl;(all_goals simp))) ((first | (go_at_call 130;refine(tokens_any _ _ _ _ _ _ _ _).mono ?_;rintro e w6 ⟨rfl,hb6⟩;have N6:=AS (N5.out.below (show Below wc.heap.size wc w6 from(Below.drew (Below.refl _ _)).trans (hb6.mono (Nat.le_refl _))));clear hb6;simp only[letV,tokensL]) | (go_at_call 97;refine(N6.out.call (fun K1 h=>h.send (by have:=HL.out.1;omega) ⟨1,n.id,f,b,0,0,false,⟨t0,t1,t2,t3⟩⟩)).mono ?_;rintro e w7 ⟨rfl,h7⟩;have N7:=AS h7;clear h7)))
      go_wp2
      go_end0
      rw[hr]
      exact NOP.ns rfl N7.out.ns
     case neg =>
      rw[if_neg hq] at hr
      have hq':¬ (0:Int) < t0:=by omega
      have z0:=cw (N5.out.at_ (g:=a) (ob:=.cells #[.int .i64 t0,.bool t1,.bool t2,.int .i64 t3] 45) (by simp)) 0 (v:=.int .i64 t0)
      go_wp2
      go_end0
      (try rw[hr])
      exact NOP.ns rfl N5.out.ns
end Go.Proofs.YtiebppkhaiofeaaGreat.K
