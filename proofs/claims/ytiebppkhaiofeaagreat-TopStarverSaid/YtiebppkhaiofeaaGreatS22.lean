/- Part of the proof of TopStarver: what functions of the program do. -/
import Derived.Test.YtiebppkhaiofeaaGreatS21
set_option maxHeartbeats 4000000
set_option maxRecDepth 100000
set_option linter.unusedVariables false
set_option linter.unusedSimpArgs false
namespace Go.Proofs.YtiebppkhaiofeaaGreat.K
open Go.RowKit Go.Proofs.YtiebppkhaiofeaaGreatW.PrintWords Go.Proofs.YtiebppkhaiofeaaGreat.S
attribute [local go_sem] World.cell?_alloc_some
open Go.ChangeMaps Go.MapKept
theorem activate_no {t:Table} {a:S.Act} (h:(t.activate a).2=false):(t.activate a).1=t:=by
 unfold Table.activate at *
 split at h
 ·rename_i q;rw[if_pos q]
 ·cases h
theorem field45 (h0:Int) (h1 h2:Bool) (h3:Int) (W:Go.World):(Instr.field 45 (.agg #[.int .i64 h0,.bool h1,.bool h2,.int .i64 h3]) 0).run Tryz.prog W=.ok (.int .i64 h0) W:=by kernel_rfl
theorem Node.activate_eq (c:Cfg) (n:S.Node) (l:Let) (o:S.Out):n.activate c l o=if (n.know.activate ⟨l.block,l.who,l.seq⟩).2=true then (if l.who=n.id then (if n.cpu.pinned≠l.block then ({ n with know:=(n.know.activate ⟨l.block,l.who,l.seq⟩).1 }:S.Node).end_ c l.block o else ({ n with know:=(n.know.activate ⟨l.block,l.who,l.seq⟩).1 },o)) else ({ n with know:=(n.know.activate ⟨l.block,l.who,l.seq⟩).1,lines:=(n.lines.take c l.block (n.lines.tok l.block).count true true).1 },if (n.lines.take c l.block (n.lines.tok l.block).count true true).2.count > 0 then o.send (tokensL n.id l.who l.block (n.lines.take c l.block (n.lines.tok l.block).count true true).2) else o)) else (n,o):=by
 unfold Node.activate
 simp only
 cases (n.know.activate ⟨l.block,l.who,l.seq⟩).2 <;> simp <;> rfl
theorem nodeActivate_any {c:Cfg} {n:S.Node} {o:S.Out} {p:NPtr} {K:Nat->Nat} {w:Go.World} (hN:NO c n o p K w) (hl:o.letters.length≤1000000) (l:Let) (d:Drw):Calls Tryz.prog 94 #[.pointer (some ⟨p.b,0,none⟩),letV l,drwV d,.pointer (some ⟨p.q,0,none⟩)] w (NOP (.tuple #[]) c (n.activate c l o).1 (n.activate c l o).2 p K w):=by
 obtain⟨k,f,t,b,qq,wh,wr,⟨c0,oo,hh,dd⟩⟩:=l
 obtain⟨d0,d1,d2⟩:=d
 have HL:=AS (And.intro hl hl)
 have CE:=AS (show ∀ (n':S.Node) (W':Go.World),n'.id=n.id->W'.heap[p.b]?=some (.cells (nodeC c n' p) 133 (0,0))->(W'.cell? ⟨p.b,0,none⟩=some (.int .i64 c.nodes)/\W'.cell? ⟨p.b,1,none⟩=some (.int .i64 c.blocks)/\W'.cell? ⟨p.b,2,none⟩=some (.int .i64 c.tokens)/\W'.cell? ⟨p.b,3,none⟩=some (.int .i64 c.sets)/\W'.cell? ⟨p.b,4,none⟩=some (.int .i64 c.ways)/\W'.cell? ⟨p.b,5,none⟩=some (.int .i64 c.cap)/\W'.cell? ⟨p.b,6,none⟩=some (.int .i64 c.wait)/\W'.cell? ⟨p.b,7,none⟩=some (.int .i64 c.tries)/\W'.cell? ⟨p.b,8,none⟩=some (.int .i64 c.policy)/\W'.cell? ⟨p.b,9,none⟩=some (.int .i64 n.id)/\W'.cell? ⟨p.b,10,none⟩=some (.pointer (some ⟨p.bc,0,none⟩))/\W'.cell? ⟨p.b,11,none⟩=some (.pointer (some ⟨p.bt,0,none⟩))/\W'.cell? ⟨p.b,12,none⟩=some (.pointer (some ⟨p.bp,0,none⟩))/\W'.cell? ⟨p.b,13,none⟩=some (.map (some p.ba))/\W'.cell? ⟨p.b,14,none⟩=some (.map (some p.bo))) from fun n' W' hi h=>⟨cw h 0,cw h 1,cw h 2,cw h 3,cw h 4,cw h 5,cw h 6,cw h 7,cw h 8,by rw[<- hi];exact(cw h 9),cw h 10,cw h 11,cw h 12,cw h 13,cw h 14⟩)
 have N1:=AS (((NS.refl hN).nx.box (.cells #[.int .i64 k,.int .i64 f,.int .i64 t,.int .i64 b,.int .i64 qq,.int .i64 wh,.bool wr,.int .i64 c0,.bool oo,.bool hh,.int .i64 dd] 47)).box (.cells #[.int .i64 d0,.int .i64 d1,.int .i64 d2] 74))
 rw[show(w.alloc (.cells #[.int .i64 k,.int .i64 f,.int .i64 t,.int .i64 b,.int .i64 qq,.int .i64 wh,.bool wr,.int .i64 c0,.bool oo,.bool hh,.int .i64 dd] 47)).heap.size=w.heap.size+1 by simp] at N1
 show Calls Tryz.prog 94 #[.pointer (some ⟨p.b,0,none⟩),.agg #[.int .i64 k,.int .i64 f,.int .i64 t,.int .i64 b,.int .i64 qq,.int .i64 wh,.bool wr,.int .i64 c0,.bool oo,.bool hh,.int .i64 dd],.agg #[.int .i64 d0,.int .i64 d1,.int .i64 d2],.pointer (some ⟨p.q,0,none⟩)] w (NOP (.tuple #[]) c (n.activate c ⟨k,f,t,b,qq,wh,wr,⟨c0,oo,hh,dd⟩⟩ o).1 (n.activate c ⟨k,f,t,b,qq,wh,wr,⟨c0,oo,hh,dd⟩⟩ o).2 p K w)
 have HR:=AS (Node.activate_eq c n ⟨k,f,t,b,qq,wh,wr,⟨c0,oo,hh,dd⟩⟩ o)
 simp only at HR
 generalize n.activate c ⟨k,f,t,b,qq,wh,wr,⟨c0,oo,hh,dd⟩⟩ o=R at *
 have AN:=AS (activate_no (t:=n.know) (a:=⟨b,wh,qq⟩))
 clear hN hl
 generalize hpb:p.b=pb at *
 go_enter Tryz.func94,Tryz.ntmps94
 go_upto_region 1 with fail
 generalize ((w.alloc (.cells #[.int .i64 k,.int .i64 f,.int .i64 t,.int .i64 b,.int .i64 qq,.int .i64 wh,.bool wr,.int .i64 c0,.bool oo,.bool hh,.int .i64 dd] 47)).alloc (.cells #[.int .i64 d0,.int .i64 d1,.int .i64 d2] 74))=W at N1 ⊢
 generalize hg:w.heap.size=g at *
 have KEEP:=AS (show ∀ (n':S.Node) (o':S.Out) (bx:List (Nat×Obj)) x,NX c n' o' p K w bx x->n'.id=n.id->(g,(.cells #[.int .i64 k,.int .i64 f,.int .i64 t,.int .i64 b,.int .i64 qq,.int .i64 wh,.bool wr,.int .i64 c0,.bool oo,.bool hh,.int .i64 dd] 47:Obj))∈bx->(x.cell? ⟨pb,11,none⟩=some (.pointer (some ⟨p.bt,0,none⟩))/\x.cell? ⟨g,3,none⟩=some (.int .i64 b)/\x.cell? ⟨g,4,none⟩=some (.int .i64 qq)/\x.cell? ⟨g,5,none⟩=some (.int .i64 wh)) from fun n' o' bx x hx hid m0=>by
  have hce:=(show _ from by have h11:=hx.node;rw[hpb] at h11;exact CE.out n' _ hid h11)
  have hb0:=hx.at_ m0
  exact⟨hce.2.2.2.2.2.2.2.2.2.2.2.1,cw hb0 3,cw hb0 4,cw hb0 5⟩)
 have hS_:=KEEP.out _ _ _ _ N1.out rfl (by simp)
 have e0_:=hS_.1
 have e1_:=hS_.2.1
 have e2_:=hS_.2.2.1
 have e3_:=hS_.2.2.2
 clear hS_
 have AC:=AS (N1.out.drew.call (fun K1 h=>h.act ⟨b,wh,qq⟩))
 simp only[actV] at AC
 generalize n.know.activate ⟨b,wh,qq⟩=ac at *
 obtain⟨kn,ra⟩:=ac
 simp only at AC HR AN
 go_cut [21] (fun v21 wx=>v21=.bool (!ra)/\NX c { n with know:=kn } o p K w [(g+1,(.cells #[.int .i64 d0,.int .i64 d1,.int .i64 d2] 74:Obj)),(g,(.cells #[.int .i64 k,.int .i64 f,.int .i64 t,.int .i64 b,.int .i64 qq,.int .i64 wh,.bool wr,.int .i64 c0,.bool oo,.bool hh,.int .i64 dd] 47:Obj))] wx)
 case first =>
  go_region_held3 (fun x=>x.cell? ⟨pb,11,none⟩=some (.pointer (some ⟨p.bt,0,none⟩))/\x.cell? ⟨g,3,none⟩=some (.int .i64 b)/\x.cell? ⟨g,4,none⟩=some (.int .i64 qq)/\x.cell? ⟨g,5,none⟩=some (.int .i64 wh)) (((try dsimp only);apply KEEP.out;(focus (with_reducible first | apply N2.out | apply N1.out | apply N1.out.drew));exact rfl;(all_goals simp))) ((first | (go_at_call 136;refine AC.out.mono ?_;rintro e w2 ⟨rfl,h2⟩;have N2:=AS h2;clear h2)))
  all_goals
   go_wp2_with fail
   go_meet
   exact⟨rfl,N2.out⟩
 case rest =>
  obtain⟨rfl,hcut⟩:=hcut
  have N2:=AS hcut
  clear hcut KEEP AC N1 e0_ e1_ e2_ e3_
  cases ra
  case false =>
   have hr:=HR.out.trans (if_neg (by simp))
   have hk:=AN.out rfl
   subst hk
   go_wp2
   go_end0
   (try rw[hr])
   exact NOP.ns rfl N2.out.ns
  case true =>
   have hr:=HR.out.trans (if_pos rfl)
   clear HR AN
   have HR:=AS hr
   clear hr
   have KEEP:=AS (show ∀ (n':S.Node) (o':S.Out) (bx:List (Nat×Obj)) x,NX c n' o' p K w bx x->n'.id=n.id->(g,(.cells #[.int .i64 k,.int .i64 f,.int .i64 t,.int .i64 b,.int .i64 qq,.int .i64 wh,.bool wr,.int .i64 c0,.bool oo,.bool hh,.int .i64 dd] 47:Obj))∈bx->(x.cell? ⟨pb,9,none⟩=some (.int .i64 n.id)/\x.cell? ⟨g,5,none⟩=some (.int .i64 wh)) from fun n' o' bx x hx hid m0=>by
    have hce:=(show _ from by have h11:=hx.node;rw[hpb] at h11;exact CE.out n' _ hid h11)
    have hb0:=hx.at_ m0
    exact⟨hce.2.2.2.2.2.2.2.2.2.1,cw hb0 5⟩)
   go_upto_region 2 with fail
   have hS_:=KEEP.out _ _ _ _ N2.out rfl (by simp)
   have e0_:=hS_.1
   have e1_:=hS_.2
   clear hS_
   go_cut [28] (fun v28 wx=>v28=.bool (decide (wh=n.id))/\NX c { n with know:=kn } o p K w [(g+1,(.cells #[.int .i64 d0,.int .i64 d1,.int .i64 d2] 74:Obj)),(g,(.cells #[.int .i64 k,.int .i64 f,.int .i64 t,.int .i64 b,.int .i64 qq,.int .i64 wh,.bool wr,.int .i64 c0,.bool oo,.bool hh,.int .i64 dd] 47:Obj))] wx)
   case first =>
    go_region
    all_goals
     go_wp2_with fail
     go_meet
     exact⟨by first | rfl | (simp[go_sem];done),N2.out.drew⟩
   case rest =>
    obtain⟨rfl,hcut⟩:=hcut
    have N3:=AS hcut
    clear hcut KEEP N2 e0_ e1_
    by_cases hq:wh=n.id
    case pos =>
     have hr:=HR.out.trans (if_pos hq)
     have hv:decide (wh=n.id)=true:=by simp[hq]
     rw[hv]
     clear hv hq HR
     have HR:=AS hr
     clear hr
     have KEEP:=AS (show ∀ (n':S.Node) (o':S.Out) (bx:List (Nat×Obj)) x,NX c n' o' p K w bx x->n'.id=n.id->(g,(.cells #[.int .i64 k,.int .i64 f,.int .i64 t,.int .i64 b,.int .i64 qq,.int .i64 wh,.bool wr,.int .i64 c0,.bool oo,.bool hh,.int .i64 dd] 47:Obj))∈bx->(x.cell? ⟨pb,12,none⟩=some (.pointer (some ⟨p.bp,0,none⟩))/\x.cell? ⟨g,3,none⟩=some (.int .i64 b)) from fun n' o' bx x hx hid m0=>by
      have hce:=(show _ from by have h11:=hx.node;rw[hpb] at h11;exact CE.out n' _ hid h11)
      have hb0:=hx.at_ m0
      exact⟨hce.2.2.2.2.2.2.2.2.2.2.2.2.1,cw hb0 3⟩)
     go_upto_region 3 with fail
     have hS_:=KEEP.out _ _ _ _ N3.out rfl (by simp)
     have e0_:=hS_.1
     have e1_:=hS_.2
     clear hS_
     have PIN:=AS (show ∀ W',Below wc.heap.size wc W'->Calls Tryz.prog 132 #[.pointer (some ⟨p.bp,0,none⟩)] W' (RQ (.int .i64 n.cpu.pinned) W') from fun W' hb=>(N3.out.below hb).have_ fun K1 h=>pinned_any h.1.2.2.2.2.1)
     generalize n.cpu.pinned=pin at *
     go_cut [36] (fun v36 wx=>v36=.bool (!decide (pin=b))/\NX c { n with know:=kn } o p K w [(g+1,(.cells #[.int .i64 d0,.int .i64 d1,.int .i64 d2] 74:Obj)),(g,(.cells #[.int .i64 k,.int .i64 f,.int .i64 t,.int .i64 b,.int .i64 qq,.int .i64 wh,.bool wr,.int .i64 c0,.bool oo,.bool hh,.int .i64 dd] 47:Obj))] wx)
     case first =>
      go_region_held3 (fun x=>x.cell? ⟨pb,12,none⟩=some (.pointer (some ⟨p.bp,0,none⟩))/\x.cell? ⟨g,3,none⟩=some (.int .i64 b)) (((try dsimp only);apply KEEP.out;(focus (with_reducible first | apply N3.out | apply N3.out.drew));exact rfl;(all_goals simp))) ((first | (go_at_call 132;refine(PIN.out _ (by repeat (first | with_reducible exact Below.refl _ _ | with_reducible apply below_alloc | with_reducible apply Below.drew | refine Below.setCell ?_ (by dsimp only;omega) _))).mono ?_;rintro e w4 ⟨rfl,rfl⟩)))
      all_goals
       go_wp2_with fail
       go_meet
       exact⟨by first | rfl | (simp[go_sem];done),N3.out.drew⟩
     case rest =>
      obtain⟨rfl,hcut⟩:=hcut
      have N4:=AS hcut
      clear hcut KEEP PIN N3 e0_ e1_
      by_cases hp:pin=b
      case pos =>
       have hr:=HR.out.trans (if_neg (by simp[hp]))
       have hv:(!decide (pin=b))=false:=by simp[hp]
       rw[hv]
       go_wp2
       go_end0
       (try rw[hr])
       exact NOP.ns rfl N4.out.ns
      case neg =>
       have hr:=HR.out.trans (if_pos hp)
       have hv:(!decide (pin=b))=true:=by simp[hp]
       rw[hv]
       have l3:=cw (N4.out.at_ (g:=g) (ob:=.cells #[.int .i64 k,.int .i64 f,.int .i64 t,.int .i64 b,.int .i64 qq,.int .i64 wh,.bool wr,.int .i64 c0,.bool oo,.bool hh,.int .i64 dd] 47) (by simp)) 3 (v:=.int .i64 b)
       have EN:=AS (N4.out.call (fun K1 h=>nodeEnd_any h (by have:=HL.out.1;omega) b))
       rw[hpb] at EN
       go_wp2_with fail
       refine EN.out.mono ?_
       rintro e w7 ⟨rfl,h7⟩
       have N7:=AS h7
       clear h7 EN
       go_wp2
       go_end0
       (try rw[hr])
       exact NOP.ns rfl N7.out.ns
    case neg =>
     have hr:=HR.out.trans (if_neg hq)
     have hv:decide (wh=n.id)=false:=by simp[hq]
     rw[hv]
     clear hv hq HR
     have HR:=AS hr
     clear hr
     have GET:=AS (show ∀ W',Below wc.heap.size wc W'->Calls Tryz.prog 134 #[.pointer (some ⟨p.bc,0,none⟩),.int .i64 b] W' (RV (bunV (n.lines.tok b)) W') from fun W' hb=>(N3.out.below hb).have_ fun K1 h=>cacGet_any h.1.2.2.1 b)
     generalize hgot:n.lines.tok b=got at *
     obtain⟨h0,h1,h2,h3⟩:=got
     have TK:=AS (show ∀ bx W',NX c { n with know:=kn } o p K w bx W'->_ from fun bx W' h=>h.call (fun K1 h=>h.cacTake b h0 true true))
     simp only at TK HR
     generalize n.lines.take c b h0 true true=tk at *
     obtain⟨tl,t0,t1,t2,t3⟩:=tk
     simp only[bunV] at TK HR GET
     have FLD:=field45 h0 h1 h2 h3
     have KEEP:=AS (show ∀ (n':S.Node) (o':S.Out) (bx:List (Nat×Obj)) x,NX c n' o' p K w bx x->n'.id=n.id->(g,(.cells #[.int .i64 k,.int .i64 f,.int .i64 t,.int .i64 b,.int .i64 qq,.int .i64 wh,.bool wr,.int .i64 c0,.bool oo,.bool hh,.int .i64 dd] 47:Obj))∈bx->(x.cell? ⟨pb,10,none⟩=some (.pointer (some ⟨p.bc,0,none⟩))/\x.cell? ⟨g,3,none⟩=some (.int .i64 b)) from fun n' o' bx x hx hid m0=>by
      have hce:=(show _ from by have h11:=hx.node;rw[hpb] at h11;exact CE.out n' _ hid h11)
      have hb0:=hx.at_ m0
      exact⟨hce.2.2.2.2.2.2.2.2.2.2.1,cw hb0 3⟩)
     go_upto_region 5 with fail
     have hS_:=KEEP.out _ _ _ _ N3.out rfl (by simp)
     have e0_:=hS_.1
     have e1_:=hS_.2
     clear hS_
     go_cut [8] (fun v8 wx=>∃ a,v8=.pointer (some ⟨a,0,none⟩)/\NX c { n with know:=kn,lines:=tl } o p K w [(a,(.cells #[.int .i64 t0,.bool t1,.bool t2,.int .i64 t3] 45:Obj)),(g+1,(.cells #[.int .i64 d0,.int .i64 d1,.int .i64 d2] 74:Obj)),(g,(.cells #[.int .i64 k,.int .i64 f,.int .i64 t,.int .i64 b,.int .i64 qq,.int .i64 wh,.bool wr,.int .i64 c0,.bool oo,.bool hh,.int .i64 dd] 47:Obj))] wx)
     case first =>
      go_region_held3 (fun x=>x.cell? ⟨pb,10,none⟩=some (.pointer (some ⟨p.bc,0,none⟩))/\x.cell? ⟨g,3,none⟩=some (.int .i64 b)) (((try dsimp only);apply KEEP.out;(focus (first | with_reducible apply N4.out | with_reducible apply NG.out | with_reducible apply N3.out | with_reducible apply N3.out.drew | (refine NX.below N4.out ?_;(repeat (first | with_reducible exact Below.refl _ _ | with_reducible apply below_alloc | with_reducible apply Below.drew | refine Below.setCell ?_ (by dsimp only;omega) _));done) | (refine NX.below NG.out ?_;(repeat (first | with_reducible exact Below.refl _ _ | with_reducible apply below_alloc | with_reducible apply Below.drew | refine Below.setCell ?_ (by dsimp only;omega) _));done) | (refine NX.below N3.out ?_;(repeat (first | with_reducible exact Below.refl _ _ | with_reducible apply below_alloc | with_reducible apply Below.drew | refine Below.setCell ?_ (by dsimp only;omega) _));done) | (refine NX.pass N4.out ?_;(repeat (with_reducible first | exact KS.refl _ _ | apply KS.drew | apply KS.set1));done)));exact rfl;(all_goals simp))) ((first | (go_at_call 134;refine(GET.out wc.drew (Below.drew (Below.refl _ _))).mono ?_;rintro e wg ⟨rfl,hbg⟩;have NG:=AS (show NX c { n with know:=kn } o p K w ([(g+1,(.cells #[.int .i64 d0,.int .i64 d1,.int .i64 d2] 74:Obj)),(g,(.cells #[.int .i64 k,.int .i64 f,.int .i64 t,.int .i64 b,.int .i64 qq,.int .i64 wh,.bool wr,.int .i64 c0,.bool oo,.bool hh,.int .i64 dd] 47:Obj))]) wg from N3.out.drew.below hbg);clear hbg) | (go_at_call 134;refine(GET.out (wc.drew.alloc (.cells #[.int .i64 0,.bool false,.bool false,.int .i64 0] 45)) (below_alloc (Below.drew (Below.refl _ _)) _)).mono ?_;rintro e wg ⟨rfl,hbg⟩;have NG:=AS (show NX c { n with know:=kn } o p K w ([(wc.heap.size,(.cells #[.int .i64 0,.bool false,.bool false,.int .i64 0] 45:Obj)),(g+1,(.cells #[.int .i64 d0,.int .i64 d1,.int .i64 d2] 74:Obj)),(g,(.cells #[.int .i64 k,.int .i64 f,.int .i64 t,.int .i64 b,.int .i64 qq,.int .i64 wh,.bool wr,.int .i64 c0,.bool oo,.bool hh,.int .i64 dd] 47:Obj))]) wg from(N3.out.drew.box (.cells #[.int .i64 0,.bool false,.bool false,.int .i64 0] 45)).below hbg);clear hbg) | (go_at_call 135;refine(TK.out _ _ NG.out).mono ?_;rintro e w4 ⟨rfl,h4⟩;(first | (have N4:=AS (show NX c { n with know:=kn,lines:=tl } o p K w ([(wc.heap.size,(.cells #[.int .i64 0,.bool false,.bool false,.int .i64 0] 45:Obj)),(g+1,(.cells #[.int .i64 d0,.int .i64 d1,.int .i64 d2] 74:Obj)),(g,(.cells #[.int .i64 k,.int .i64 f,.int .i64 t,.int .i64 b,.int .i64 qq,.int .i64 wh,.bool wr,.int .i64 c0,.bool oo,.bool hh,.int .i64 dd] 47:Obj))]) w4 from h4);clear h4;have Z:=AS (show w4.heap[wc.heap.size]?=some (.cells #[.int .i64 0,.bool false,.bool false,.int .i64 0] 45) from N4.out.at_ (List.mem_cons_self));have z0:w4.cell? ⟨wc.heap.size,0,none⟩=some (.int .i64 0):=cw Z.out 0;have zz0:w4.frozen? ⟨wc.heap.size,0,none⟩=false:=blk_frozen Z.out 0;have z1:w4.cell? ⟨wc.heap.size,1,none⟩=some (.bool false):=cw Z.out 1;have zz1:w4.frozen? ⟨wc.heap.size,1,none⟩=false:=blk_frozen Z.out 1;have z2:w4.cell? ⟨wc.heap.size,2,none⟩=some (.bool false):=cw Z.out 2;have zz2:w4.frozen? ⟨wc.heap.size,2,none⟩=false:=blk_frozen Z.out 2;have z3:w4.cell? ⟨wc.heap.size,3,none⟩=some (.int .i64 0):=cw Z.out 3;have zz3:w4.frozen? ⟨wc.heap.size,3,none⟩=false:=blk_frozen Z.out 3) | (have N4:=AS (show NX c { n with know:=kn,lines:=tl } o p K w ([(g+1,(.cells #[.int .i64 d0,.int .i64 d1,.int .i64 d2] 74:Obj)),(g,(.cells #[.int .i64 k,.int .i64 f,.int .i64 t,.int .i64 b,.int .i64 qq,.int .i64 wh,.bool wr,.int .i64 c0,.bool oo,.bool hh,.int .i64 dd] 47:Obj))]) w4 from h4);clear h4;have Z:=AS (show(w4.alloc (.cells #[.int .i64 0,.bool false,.bool false,.int .i64 0] 45)).heap[w4.heap.size]?=some (.cells #[.int .i64 0,.bool false,.bool false,.int .i64 0] 45) from blk_new w4 _);have z0:(w4.alloc (.cells #[.int .i64 0,.bool false,.bool false,.int .i64 0] 45)).cell? ⟨w4.heap.size,0,none⟩=some (.int .i64 0):=cw Z.out 0;have zz0:(w4.alloc (.cells #[.int .i64 0,.bool false,.bool false,.int .i64 0] 45)).frozen? ⟨w4.heap.size,0,none⟩=false:=blk_frozen Z.out 0;have z1:(w4.alloc (.cells #[.int .i64 0,.bool false,.bool false,.int .i64 0] 45)).cell? ⟨w4.heap.size,1,none⟩=some (.bool false):=cw Z.out 1;have zz1:(w4.alloc (.cells #[.int .i64 0,.bool false,.bool false,.int .i64 0] 45)).frozen? ⟨w4.heap.size,1,none⟩=false:=blk_frozen Z.out 1;have z2:(w4.alloc (.cells #[.int .i64 0,.bool false,.bool false,.int .i64 0] 45)).cell? ⟨w4.heap.size,2,none⟩=some (.bool false):=cw Z.out 2;have zz2:(w4.alloc (.cells #[.int .i64 0,.bool false,.bool false,.int .i64 0] 45)).frozen? ⟨w4.heap.size,2,none⟩=false:=blk_frozen Z.out 2;have z3:(w4.alloc (.cells #[.int .i64 0,.bool false,.bool false,.int .i64 0] 45)).cell? ⟨w4.heap.size,3,none⟩=some (.int .i64 0):=cw Z.out 3;have zz3:(w4.alloc (.cells #[.int .i64 0,.bool false,.bool false,.int .i64 0] 45)).frozen? ⟨w4.heap.size,3,none⟩=false:=blk_frozen Z.out 3))) | (go_at_call 135;refine(TK.out _ _ (NG.out.box (.cells #[.int .i64 0,.bool false,.bool false,.int .i64 0] 45))).mono ?_;rintro e w4 ⟨rfl,h4⟩;have N4:=AS (show NX c { n with know:=kn,lines:=tl } o p K w ([(wg.heap.size,(.cells #[.int .i64 0,.bool false,.bool false,.int .i64 0] 45:Obj)),(g+1,(.cells #[.int .i64 d0,.int .i64 d1,.int .i64 d2] 74:Obj)),(g,(.cells #[.int .i64 k,.int .i64 f,.int .i64 t,.int .i64 b,.int .i64 qq,.int .i64 wh,.bool wr,.int .i64 c0,.bool oo,.bool hh,.int .i64 dd] 47:Obj))]) w4 from h4);clear h4;have Z:=AS (show w4.heap[wg.heap.size]?=some (.cells #[.int .i64 0,.bool false,.bool false,.int .i64 0] 45) from N4.out.at_ (List.mem_cons_self));have z0:w4.cell? ⟨wg.heap.size,0,none⟩=some (.int .i64 0):=cw Z.out 0;have zz0:=blk_frozen Z.out 0;have z1:w4.cell? ⟨wg.heap.size,1,none⟩=some (.bool false):=cw Z.out 1;have zz1:w4.frozen? ⟨wg.heap.size,1,none⟩=false:=blk_frozen Z.out 1;have z2:w4.cell? ⟨wg.heap.size,2,none⟩=some (.bool false):=cw Z.out 2;have zz2:w4.frozen? ⟨wg.heap.size,2,none⟩=false:=blk_frozen Z.out 2;have z3:w4.cell? ⟨wg.heap.size,3,none⟩=some (.int .i64 0):=cw Z.out 3;have zz3:w4.frozen? ⟨wg.heap.size,3,none⟩=false:=blk_frozen Z.out 3)))
      all_goals
       go_wp2_with fail
       go_meet
       refine⟨_,rfl,?_⟩
       first
        | (with_reducible apply NX.put N4.out;(focus ((repeat (with_reducible first | exact KS.refl _ _ | apply KS.drew | apply KS.set1));done));exact(blk_set (blk_set (blk_set (blk_set Z.out 0 _) 1 _) 2 _) 3 _).trans (by simp))
        | (with_reducible apply NX.new N4.out;(focus ((repeat (first | with_reducible exact Below.refl _ _ | with_reducible apply below_alloc | with_reducible apply Below.drew | refine Below.setCell ?_ (by dsimp only;omega) _));done));(focus (exact Nat.le_refl _));exact(blk_set (blk_set (blk_set (blk_set Z.out 0 _) 1 _) 2 _) 3 _).trans (by simp))
        | with_reducible apply N4.out.box
     case rest =>
      obtain⟨a,rfl,hcut⟩:=hcut
      have N5:=AS hcut
      clear hcut TK GET KEEP N3 e0_ e1_
      have hr:=HR.out
      by_cases hq:t0 > 0
      case pos =>
       rw[if_pos hq] at hr
       have hq':(0:Int) < t0:=by omega
       have z0:=cw (N5.out.at_ (g:=a) (ob:=.cells #[.int .i64 t0,.bool t1,.bool t2,.int .i64 t3] 45) (by simp)) 0 (v:=.int .i64 t0)
       have KEEP:=AS (show ∀ (n':S.Node) (o':S.Out) (bx:List (Nat×Obj)) x,NX c n' o' p K w bx x->n'.id=n.id->(g,(.cells #[.int .i64 k,.int .i64 f,.int .i64 t,.int .i64 b,.int .i64 qq,.int .i64 wh,.bool wr,.int .i64 c0,.bool oo,.bool hh,.int .i64 dd] 47:Obj))∈bx->(a,(.cells #[.int .i64 t0,.bool t1,.bool t2,.int .i64 t3] 45:Obj))∈bx->(x.cell? ⟨pb,9,none⟩=some (.int .i64 n.id)/\x.cell? ⟨g,5,none⟩=some (.int .i64 wh)/\x.cell? ⟨g,3,none⟩=some (.int .i64 b)/\x.cell? ⟨a,0,none⟩=some (.int .i64 t0)/\x.cell? ⟨a,1,none⟩=some (.bool t1)/\x.cell? ⟨a,2,none⟩=some (.bool t2)/\x.cell? ⟨a,3,none⟩=some (.int .i64 t3)) from fun n' o' bx x hx hid m0 m1=>by
        have hce:=(show _ from by have h11:=hx.node;rw[hpb] at h11;exact CE.out n' _ hid h11)
        have hb0:=hx.at_ m0
        have hb1:=hx.at_ m1
        exact⟨hce.2.2.2.2.2.2.2.2.2.1,cw hb0 5,cw hb0 3,cw hb1 0,cw hb1 1,cw hb1 2,cw hb1 3⟩)
       go_upto_region 7 with fail
       have hS_:=KEEP.out _ _ _ _ N5.out rfl (by simp) (by simp)
       have e0_:=hS_.1
       have e1_:=hS_.2.1
       have e2_:=hS_.2.2.1
       have e3_:=hS_.2.2.2.1
       have e4_:=hS_.2.2.2.2.1
       have e5_:=hS_.2.2.2.2.2.1
       have e6_:=hS_.2.2.2.2.2.2
       clear hS_
       go_region_held3 (fun x=>x.cell? ⟨pb,9,none⟩=some (.int .i64 n.id)/\x.cell? ⟨g,5,none⟩=some (.int .i64 wh)/\x.cell? ⟨g,3,none⟩=some (.int .i64 b)/\x.cell? ⟨a,0,none⟩=some (.int .i64 t0)/\x.cell? ⟨a,1,none⟩=some (.bool t1)/\x.cell? ⟨a,2,none⟩=some (.bool t2)/\x.cell? ⟨a,3,none⟩=some (.int .i64 t3)) (((try dsimp only);apply KEEP.out;(focus (with_reducible first | apply N7.out | apply N6.out | apply N5.out | apply N5.out.drew));exact rfl;(all_goals simp))) ((first | (go_at_call 130;refine(tokens_any _ _ _ _ _ _ _ _).mono ?_;rintro e w6 ⟨rfl,hb6⟩;have N6:=AS (N5.out.below (show Below wc.heap.size wc w6 from(Below.drew (Below.refl _ _)).trans (hb6.mono (Nat.le_refl _))));clear hb6;simp only[letV,tokensL]) | (go_at_call 97;refine(N6.out.call (fun K1 h=>h.send (by have:=HL.out.1;omega) ⟨1,n.id,wh,b,0,0,false,⟨t0,t1,t2,t3⟩⟩)).mono ?_;rintro e w7 ⟨rfl,h7⟩;have N7:=AS h7;clear h7)))
       go_wp2
       go_end0
       (try rw[hr])
       exact NOP.ns rfl N7.out.ns
      case neg =>
       rw[if_neg hq] at hr
       have hq':¬ (0:Int) < t0:=by omega
       have z0:=cw (N5.out.at_ (g:=a) (ob:=.cells #[.int .i64 t0,.bool t1,.bool t2,.int .i64 t3] 45) (by simp)) 0 (v:=.int .i64 t0)
       go_wp2
       go_end0
       (try rw[hr])
       exact NOP.ns rfl N5.out.ns
theorem homeBegin_any {c:Cfg} {h:S.Home} {b bm bq:Nat} {K:Nat->Nat} {w:Go.World} (hH:HomeK c h b bm bq K w) (r:Option S.Act):Calls Tryz.prog 124 #[.pointer (some ⟨b,0,none⟩),actV (r.getD act0),.bool r.isSome] w (HRet c (h.begin_ c (h.queue,r)).1 (h.begin_ c (h.queue,r)).2 b bm bq K w):=by
 have N0:=AS (GX.refl (m:=2) hH)
 cases r with
 | none =>
  show Calls Tryz.prog 124 #[.pointer (some ⟨b,0,none⟩),.agg #[.int .i64 0,.int .i64 0,.int .i64 0],.bool false] w (HRet c h [] b bm bq K w)
  clear hH
  go_enter Tryz.func124,Tryz.ntmps124
  go_wp2
  go_ret
  exact HRet.none (GX.below (homeStays _ _ _ _ _) N0.out (by repeat (with_reducible first | exact Below.refl _ _ | apply below_alloc)))
 | some a =>
  obtain⟨a0,a1,a2⟩:=a
  have N1:=AS (GX.box (homeStays _ _ _ _ _) N0.out (.cells #[.int .i64 a0,.int .i64 a1,.int .i64 a2] 55))
  have HR:=AS (show h.begin_ c (h.queue,some ⟨a0,a1,a2⟩)=((h.memTake a0 (h.get a0).count true true).1,spread 4 c.nodes a0 a2 a1 c.nodes ++ Home.tokens c a1 a0 (h.memTake a0 (h.get a0).count true true).2) from rfl)
  generalize h.begin_ c (h.queue,some ⟨a0,a1,a2⟩)=R at *
  show Calls Tryz.prog 124 #[.pointer (some ⟨b,0,none⟩),.agg #[.int .i64 a0,.int .i64 a1,.int .i64 a2],.bool true] w (HRet c R.1 R.2 b bm bq K w)
  clear hH N0
  go_enter Tryz.func124,Tryz.ntmps124
  go_upto_region 1 with fail
  generalize hg:w.heap.size=g at *
  generalize w.alloc (.cells #[.int .i64 a0,.int .i64 a1,.int .i64 a2] 55)=W at N1 ⊢
  go_upto_region 3 with fail
  have KEEP:=AS (show ∀ (h':S.Home) (bx:List (Nat×Obj)) x,GX (HomeK c h' b bm bq) 2 K w bx x->(g,(.cells #[.int .i64 a0,.int .i64 a1,.int .i64 a2] 55:Obj))∈bx->(x.cell? ⟨b,0,none⟩=some (.int .i64 c.nodes)/\x.cell? ⟨g,0,none⟩=some (.int .i64 a0)/\x.cell? ⟨g,1,none⟩=some (.int .i64 a1)/\x.cell? ⟨g,2,none⟩=some (.int .i64 a2)) from fun h' bx x hx m0=>by
   have h11:=hx.blkH
   have hb0:=hx.at_ m0
   exact⟨cw h11 0,cw hb0 0,cw hb0 1,cw hb0 2⟩)
  have hS_:=KEEP.out _ _ _ N1.out (by simp)
  have e0_:=hS_.1
  have e1_:=hS_.2.1
  have e2_:=hS_.2.2.1
  have e3_:=hS_.2.2.2
  clear hS_
  have SP:=AS (spread_any 4 c.nodes a0 a2 a1 c.nodes W.drew)
  have HSL:=AS (show(spread 4 c.nodes a0 a2 a1 c.nodes).length≤64 from by unfold spread;simp;omega)
  generalize spread 4 c.nodes a0 a2 a1 c.nodes=sp at *
  go_cut [7] (fun v7 wx=>(∃ A cp,v7=.slice A sp.length cp)/\OwnE letE v7 sp wx/\∃ bx',GX (HomeK c h b bm bq) 2 K w (bx' ++ [(g,(.cells #[.int .i64 a0,.int .i64 a1,.int .i64 a2] 55:Obj))]) wx/\∀ x∈foot v7,∃ ob,(x,ob)∈bx')
  case first =>
   go_region_held3 (fun x=>x.cell? ⟨b,0,none⟩=some (.int .i64 c.nodes)/\x.cell? ⟨g,0,none⟩=some (.int .i64 a0)/\x.cell? ⟨g,1,none⟩=some (.int .i64 a1)/\x.cell? ⟨g,2,none⟩=some (.int .i64 a2)) (((try dsimp only);(first | (apply KEEP.out;(focus (first | (with_reducible apply N3.out) | (with_reducible apply N1.out) | (with_reducible apply (GX.drew (homeStays _ _ _ _ _) N1.out))));(all_goals simp))))) ((first | (go_at_call 127;refine SP.out.mono ?_;rintro e w3 ⟨v,rfl,hO,hb,hf⟩;have N3:=AS (GX.below (homeStays _ _ _ _ _) N1.out ((Below.drew (Below.refl _ _)).trans (hb.mono (Nat.le_refl _))));obtain⟨A1,c1,rfl,-⟩:=hO.row;have O3:=AS hO;have R3:=AS (GX.row (homeStays _ _ _ _ _) N1.out ((Below.drew (Below.refl _ _)).trans (hb.mono (Nat.le_refl _))) hO hf);clear hO hb hf)))
   all_goals
    go_wp2_with fail
    go_meet
    exact⟨⟨_,_,rfl⟩,O3.out,R3.out⟩
  case rest =>
   obtain⟨⟨A,cp,rfl⟩,hO,bx',hN,hx⟩:=hcut
   have N2:=AS hN
   have O2:=AS (And.intro hO hx)
   clear hO hN hx KEEP SP N1 e0_ e1_ e2_ e3_
   have GET:=AS (show ∀ W',Below wc.heap.size wc W'->Calls Tryz.prog 122 #[.pointer (some ⟨bm,0,none⟩),.int .i64 a0] W' (RV (bunV (h.get a0)) W') from fun W' hb=>(GX.below (homeStays _ _ _ _ _) N2.out hb).have_ fun K1 hh=>by rw[get_mem];exact memGet_any hh.2.2.1 a0)
   generalize hgot:h.get a0=got at *
   obtain⟨h0,h1,h2,h3⟩:=got
   have TK:=AS (show ∀ bx W',GX (HomeK c h b bm bq) 2 K w bx W'->_ from fun bx W' hx=>hx.call (fun K1 hh=>hh.take a0 h0 true true))
   simp only at TK HR
   generalize h.memTake a0 h0 true true=tk at *
   obtain⟨th,t0,t1,t2,t3⟩:=tk
   simp only[bunV] at TK GET
   simp only at HR
   have TO:=AS (show ∀ bx W',GX (HomeK c th b bm bq) 2 K w bx W'->Calls Tryz.prog 119 #[.pointer (some ⟨b,0,none⟩),.int .i64 a1,.int .i64 a0,.agg #[.int .i64 t0,.bool t1,.bool t2,.int .i64 t3]] W' (NewRow letE (Home.tokens c a1 a0 ⟨t0,t1,t2,t3⟩) W') from fun bx W' hx=>homeTokens_any hx.blkH a1 a0 ⟨t0,t1,t2,t3⟩)
   have HTL:=AS (show(Home.tokens c a1 a0 ⟨t0,t1,t2,t3⟩).length≤1 from by unfold Home.tokens;split <;> simp)
   generalize Home.tokens c a1 a0 ⟨t0,t1,t2,t3⟩=tl at *
   have FLD:=field45 h0 h1 h2 h3
   have KEEP:=AS (show ∀ (h':S.Home) (bx:List (Nat×Obj)) x,GX (HomeK c h' b bm bq) 2 K w bx x->(g,(.cells #[.int .i64 a0,.int .i64 a1,.int .i64 a2] 55:Obj))∈bx->(x.cell? ⟨b,9,none⟩=some (.pointer (some ⟨bm,0,none⟩))/\x.cell? ⟨g,0,none⟩=some (.int .i64 a0)/\x.cell? ⟨g,1,none⟩=some (.int .i64 a1)) from fun h' bx x hx m0=>by
    have h11:=hx.blkH
    have hb0:=hx.at_ m0
    exact⟨cw h11 9,cw hb0 0,cw hb0 1⟩)
   go_upto_region 4 with fail
   have hS_:=KEEP.out _ _ _ N2.out (by simp)
   have e0_:=hS_.1
   have e1_:=hS_.2.1
   have e2_:=hS_.2.2
   clear hS_
   have S0:=show wc.drew.cell? ⟨b,9,none⟩=some (.pointer (some ⟨bm,0,none⟩))/\wc.drew.cell? ⟨g,0,none⟩=some (.int .i64 a0)/\wc.drew.cell? ⟨g,1,none⟩=some (.int .i64 a1) from KEEP.out _ _ _ (GX.drew (homeStays _ _ _ _ _) N2.out) (by simp)
   have HNG:=AS (show ∀ x∈foot (.slice A sp.length cp),b≠x/\g≠x from fun x hxf=>by
    obtain⟨ob,hm⟩:=O2.out.2 x hxf
    refine⟨N2.out.apart (List.mem_append_left _ hm),fun e=>?_⟩
    obtain⟨K1,-,-,-,-,hD⟩:=N2.out
    rw[List.map_append] at hD
    exact(List.nodup_append.1 hD).2.2 x (List.mem_map.2 ⟨_,hm,rfl⟩) g (by simp) e.symm)
   clear S0
   go_region_held3 (fun x=>x.cell? ⟨b,9,none⟩=some (.pointer (some ⟨bm,0,none⟩))/\x.cell? ⟨g,0,none⟩=some (.int .i64 a0)/\x.cell? ⟨g,1,none⟩=some (.int .i64 a1)) (((try dsimp only);(first | (exact S1.out) | (apply KEEP.out;(focus (first | (with_reducible apply N5.out) | (with_reducible apply N4.out) | (with_reducible apply N3.out) | (with_reducible apply N2.out) | (with_reducible apply (GX.drew (homeStays _ _ _ _ _) N2.out))));(all_goals simp))))) ((first | (go_at_call 122;refine(GET.out wc.drew (Below.drew (Below.refl _ _))).mono ?_;rintro e w3 ⟨rfl,hb3⟩;have N3:=AS (GX.below (homeStays _ _ _ _ _) N2.out ((Below.drew (Below.refl _ _)).trans (hb3.mono (Nat.le_refl _))));clear hb3) | (go_at_call 123;refine(TK.out _ _ N3.out).mono ?_;rintro e w4 ⟨rfl,h4⟩;have N4:=AS h4;clear h4) | (go_at_call 119;refine(TO.out _ _ N4.out).mono ?_;rintro e w5 ⟨v,rfl,hO,hf,hb⟩;obtain⟨A5,c5,rfl,hR5,-⟩:=hO.row;have N5:=AS (GX.below (homeStays _ _ _ _ _) N4.out hb);have R5:=AS hR5;clear hO hf hb hR5;have OA:=AS (GX.rowAt O2.out.1 O2.out.2 N2.out N5.out (fun q hq=>List.mem_append_left _ hq))) | (refine step_appE (E:=letE) (xs:=sp) (ys:=tl) (by kernel_rfl) _ _ rfl rfl rfl rfl (by exact OA.out) (by exact R5.out) (by have:=HSL.out;have:=HTL.out;show _ * 80≤_;omega) ?_;intro v1 w1 hO hK hf;have FI:=AS (HRet.app N5.out (fun x hq=>by obtain⟨ob,hm⟩:=O2.out.2 x hq;exact⟨ob,List.mem_append_left _ hm⟩) hK hO hf);have S1:=AS (show w1.cell? ⟨b,9,none⟩=some (.pointer (some ⟨bm,0,none⟩))/\w1.cell? ⟨g,0,none⟩=some (.int .i64 a0)/\w1.cell? ⟨g,1,none⟩=some (.int .i64 a1) from by have hk:=KS.keeps hK;have q1:=hk.at_ N5.out.blkH (fun hx=>(HNG.out b hx).1 rfl);have q2:=hk.at_ (N5.out.at_ (g:=g) (ob:=.cells #[.int .i64 a0,.int .i64 a1,.int .i64 a2] 55) (by simp)) (fun hx=>(HNG.out g hx).2 rfl);exact⟨cw q1 9,cw q2 0,cw q2 1⟩);clear hO hK hf)))
   all_goals
    go_wp2
    go_ret
    rw[HR.out]
    exact FI.out
end Go.Proofs.YtiebppkhaiofeaaGreat.K
