/- Part of the proof of TopPolicies: what functions of the program do. -/
import Derived.Test.YtiebppkhaiofeaaGreatP11
import Derived.Test.YtiebppkhaiofeaaGreatP00
set_option maxHeartbeats 4000000
set_option maxRecDepth 100000
set_option linter.unusedVariables false
set_option linter.unusedSimpArgs false
open Go.IntKind renaming i64→I
open Go.Value renaming slice→J, int→V, bool→aA, pointer→bA
open Option renaming some→M, none→U
open Go.Obj renaming cells→O
open Go renaming Calls→bB, World→cA
open Go.Proofs.Tryz renaming prog→dA
open Go.Proofs.YtiebppkhaiofeaaGreatW.PrintWords renaming below_alloc→eA, blk_frozen→jA, blk_set→mA, blk_new→nA
open Go.RowKit.Below renaming refl→fA, drew→iA, setCell→oA
open Go.Proofs.YtiebppkhaiofeaaGreat.K renaming homeStays→nB
open Nat renaming le_refl→pA
open And renaming intro→qA
open Go.Proofs.YtiebppkhaiofeaaGreat.K.KS renaming refl→qB, drew→sB, set1→tB
open List renaming mem_cons_self→wA
namespace Go.Proofs.YtiebppkhaiofeaaGreat.K
open Go.RowKit Go.Proofs.YtiebppkhaiofeaaGreatW.PrintWords Go.Proofs.YtiebppkhaiofeaaGreat.S
attribute [local go_sem] World.cell?_alloc_some
open Go.ChangeMaps Go.MapKept
theorem activate_no {t:Table} {a:S.Act} (h:(t.activate a).2=false):(t.activate a).1=t:=by
 unfold Table.activate at *
 split at h
 ·rename_i q;rw[if_pos q]
 ·cases h
theorem field45 (h0:Int) (h1 h2:Bool) (h3:Int) (W:cA):(Instr.field 45 (.agg #[V I h0,aA h1,aA h2,V I h3]) 0).run dA W=.ok (V I h0) W:=by kernel_rfl
theorem Node.activate_eq (c:Cfg) (n:S.Node) (l:Let) (o:S.Out):n.activate c l o=if (n.know.activate ⟨l.block,l.who,l.seq⟩).2=true then (if l.who=n.id then (if n.cpu.pinned≠l.block then ({ n with know:=(n.know.activate ⟨l.block,l.who,l.seq⟩).1 }:S.Node).end_ c l.block o else ({ n with know:=(n.know.activate ⟨l.block,l.who,l.seq⟩).1 },o)) else ({ n with know:=(n.know.activate ⟨l.block,l.who,l.seq⟩).1,lines:=(n.lines.take c l.block (n.lines.tok l.block).count true true).1 },if (n.lines.take c l.block (n.lines.tok l.block).count true true).2.count > 0 then o.send (tokensL n.id l.who l.block (n.lines.take c l.block (n.lines.tok l.block).count true true).2) else o)) else (n,o):=by
 unfold Node.activate
 simp only
 cases (n.know.activate ⟨l.block,l.who,l.seq⟩).2 <;> simp <;> rfl
theorem nodeActivate_any {c:Cfg} {n:S.Node} {o:S.Out} {p:NPtr} {K:Nat->Nat} {w:cA} (hN:NO c n o p K w) (hl:o.letters.length≤1000000) (l:Let) (d:Drw):bB dA 94 #[bA (M ⟨p.b,0,U⟩),letV l,drwV d,bA (M ⟨p.q,0,U⟩)] w (NOP (.tuple #[]) c (n.activate c l o).1 (n.activate c l o).2 p K w):=by
 obtain⟨k,f,t,b,qq,wh,wr,⟨c0,oo,hh,dd⟩⟩:=l
 obtain⟨d0,d1,d2⟩:=d
 have HL:=AS (qA hl hl)
 have CE:=AS (show ∀ (n':S.Node) (W':cA),n'.id=n.id->W'.heap[p.b]?=M (O (nodeC c n' p) 133 (0,0))->(W'.cell? ⟨p.b,0,U⟩=M (V I c.nodes)/\W'.cell? ⟨p.b,1,U⟩=M (V I c.blocks)/\W'.cell? ⟨p.b,2,U⟩=M (V I c.tokens)/\W'.cell? ⟨p.b,3,U⟩=M (V I c.sets)/\W'.cell? ⟨p.b,4,U⟩=M (V I c.ways)/\W'.cell? ⟨p.b,5,U⟩=M (V I c.cap)/\W'.cell? ⟨p.b,6,U⟩=M (V I c.wait)/\W'.cell? ⟨p.b,7,U⟩=M (V I c.tries)/\W'.cell? ⟨p.b,8,U⟩=M (V I c.policy)/\W'.cell? ⟨p.b,9,U⟩=M (V I n.id)/\W'.cell? ⟨p.b,10,U⟩=M (bA (M ⟨p.bc,0,U⟩))/\W'.cell? ⟨p.b,11,U⟩=M (bA (M ⟨p.bt,0,U⟩))/\W'.cell? ⟨p.b,12,U⟩=M (bA (M ⟨p.bp,0,U⟩))/\W'.cell? ⟨p.b,13,U⟩=M (.map (M p.ba))/\W'.cell? ⟨p.b,14,U⟩=M (.map (M p.bo))) from fun n' W' hi h=>⟨cw h 0,cw h 1,cw h 2,cw h 3,cw h 4,cw h 5,cw h 6,cw h 7,cw h 8,by rw[<- hi];exact(cw h 9),cw h 10,cw h 11,cw h 12,cw h 13,cw h 14⟩)
 have N1:=AS (((NS.refl hN).nx.box (O #[V I k,V I f,V I t,V I b,V I qq,V I wh,aA wr,V I c0,aA oo,aA hh,V I dd] 47)).box (O #[V I d0,V I d1,V I d2] 74))
 rw[show(w.alloc (O #[V I k,V I f,V I t,V I b,V I qq,V I wh,aA wr,V I c0,aA oo,aA hh,V I dd] 47)).heap.size=w.heap.size+1 by simp] at N1
 show bB dA 94 #[bA (M ⟨p.b,0,U⟩),.agg #[V I k,V I f,V I t,V I b,V I qq,V I wh,aA wr,V I c0,aA oo,aA hh,V I dd],.agg #[V I d0,V I d1,V I d2],bA (M ⟨p.q,0,U⟩)] w (NOP (.tuple #[]) c (n.activate c ⟨k,f,t,b,qq,wh,wr,⟨c0,oo,hh,dd⟩⟩ o).1 (n.activate c ⟨k,f,t,b,qq,wh,wr,⟨c0,oo,hh,dd⟩⟩ o).2 p K w)
 have HR:=AS (Node.activate_eq c n ⟨k,f,t,b,qq,wh,wr,⟨c0,oo,hh,dd⟩⟩ o)
 simp only at HR
 generalize n.activate c ⟨k,f,t,b,qq,wh,wr,⟨c0,oo,hh,dd⟩⟩ o=R at *
 have AN:=AS (activate_no (t:=n.know) (a:=⟨b,wh,qq⟩))
 clear hN hl
 generalize hpb:p.b=pb at *
 go_enter Tryz.func94,Tryz.ntmps94
 go_upto_region 1 with fail
 generalize ((w.alloc (O #[V I k,V I f,V I t,V I b,V I qq,V I wh,aA wr,V I c0,aA oo,aA hh,V I dd] 47)).alloc (O #[V I d0,V I d1,V I d2] 74))=W at N1 ⊢
 generalize hg:w.heap.size=g at *
 have KEEP:=AS (show ∀ (n':S.Node) (o':S.Out) (bx:List (Nat×Obj)) x,NX c n' o' p K w bx x->n'.id=n.id->(g,(O #[V I k,V I f,V I t,V I b,V I qq,V I wh,aA wr,V I c0,aA oo,aA hh,V I dd] 47:Obj))∈bx->(x.cell? ⟨pb,11,U⟩=M (bA (M ⟨p.bt,0,U⟩))/\x.cell? ⟨g,3,U⟩=M (V I b)/\x.cell? ⟨g,4,U⟩=M (V I qq)/\x.cell? ⟨g,5,U⟩=M (V I wh)) from fun n' o' bx x hx hid m0=>by
  have hce:=(show _ from by have h11:=hx.node;rw[hpb] at h11;exact CE.out n' _ hid h11)
  have hb0:=hx.at_ m0
  exact⟨hce.2.2.2.2.2.2.2.2.2.2.2.1,cw hb0 3,cw hb0 4,cw hb0 5⟩)
 have hS_:=KEEP.out _ _ _ _ N1.out rfl zB
 have e0_:=hS_.1
 have e1_:=hS_.2.1
 have e2_:=hS_.2.2.1
 have e3_:=hS_.2.2.2
 clear hS_
 have AC:=AS (N1.out.drew.call (fun K1 h=>h.act ⟨b,wh,qq⟩))
 simp only[actV] at AC
 generalize n.know.activate ⟨b,wh,qq⟩=ac at *
 obtain⟨kn,ra⟩:=ac
 simp only at AC HR AN
 go_cut [21] (fun v21 wx=>v21=aA (!ra)/\NX c { n with know:=kn } o p K w [(g+1,(O #[V I d0,V I d1,V I d2] 74:Obj)),(g,(O #[V I k,V I f,V I t,V I b,V I qq,V I wh,aA wr,V I c0,aA oo,aA hh,V I dd] 47:Obj))] wx)
 case first =>
  go_region_held3 (fun x=>x.cell? ⟨pb,11,U⟩=M (bA (M ⟨p.bt,0,U⟩))/\x.cell? ⟨g,3,U⟩=M (V I b)/\x.cell? ⟨g,4,U⟩=M (V I qq)/\x.cell? ⟨g,5,U⟩=M (V I wh)) (((try dsimp only);apply KEEP.out;(focus (with_reducible first | apply N2.out | apply N1.out | apply N1.out.drew));exact rfl;(all_goals simp))) ((first | (go_at_call 136;refine AC.out.mono ?_;rintro e w2 ⟨rfl,h2⟩;have N2:=AS h2;clear h2)))
  all_goals
   go_wp2_with fail
   go_meet
   exact⟨rfl,N2.out⟩
 case rest =>
  obtain⟨rfl,hcut⟩:=hcut
  have N2:=AS hcut
  clear hcut KEEP AC N1 e0_ e1_ e2_ e3_
  cases ra
  case false =>
   have hr:=HR.out.trans (if_neg zB)
   have hk:=AN.out rfl
   subst hk
   go_wp2
   go_end0
   (try rw[hr])
   exact NOP.ns rfl N2.out.ns
  case true =>
   have hr:=HR.out.trans (if_pos rfl)
   clear HR AN
   have HR:=AS hr
   clear hr
   have KEEP:=AS (show ∀ (n':S.Node) (o':S.Out) (bx:List (Nat×Obj)) x,NX c n' o' p K w bx x->n'.id=n.id->(g,(O #[V I k,V I f,V I t,V I b,V I qq,V I wh,aA wr,V I c0,aA oo,aA hh,V I dd] 47:Obj))∈bx->(x.cell? ⟨pb,9,U⟩=M (V I n.id)/\x.cell? ⟨g,5,U⟩=M (V I wh)) from fun n' o' bx x hx hid m0=>by
    have hce:=(show _ from by have h11:=hx.node;rw[hpb] at h11;exact CE.out n' _ hid h11)
    have hb0:=hx.at_ m0
    exact⟨hce.2.2.2.2.2.2.2.2.2.1,cw hb0 5⟩)
   go_upto_region 2 with fail
   have hS_:=KEEP.out _ _ _ _ N2.out rfl zB
   have e0_:=hS_.1
   have e1_:=hS_.2
   clear hS_
   go_cut [28] (fun v28 wx=>v28=aA (decide (wh=n.id))/\NX c { n with know:=kn } o p K w [(g+1,(O #[V I d0,V I d1,V I d2] 74:Obj)),(g,(O #[V I k,V I f,V I t,V I b,V I qq,V I wh,aA wr,V I c0,aA oo,aA hh,V I dd] 47:Obj))] wx)
   case first =>
    go_region
    all_goals
     go_wp2_with fail
     go_meet
     exact⟨by first | rfl | (simp[go_sem];done),N2.out.drew⟩
   case rest =>
    obtain⟨rfl,hcut⟩:=hcut
    have N3:=AS hcut
    clear hcut KEEP N2 e0_ e1_
    by_cases hq:wh=n.id
    case pos =>
     have hr:=HR.out.trans (if_pos hq)
     have hv:decide (wh=n.id)=true:=by simp[hq]
     rw[hv]
     clear hv hq HR
     have HR:=AS hr
     clear hr
     have KEEP:=AS (show ∀ (n':S.Node) (o':S.Out) (bx:List (Nat×Obj)) x,NX c n' o' p K w bx x->n'.id=n.id->(g,(O #[V I k,V I f,V I t,V I b,V I qq,V I wh,aA wr,V I c0,aA oo,aA hh,V I dd] 47:Obj))∈bx->(x.cell? ⟨pb,12,U⟩=M (bA (M ⟨p.bp,0,U⟩))/\x.cell? ⟨g,3,U⟩=M (V I b)) from fun n' o' bx x hx hid m0=>by
      have hce:=(show _ from by have h11:=hx.node;rw[hpb] at h11;exact CE.out n' _ hid h11)
      have hb0:=hx.at_ m0
      exact⟨hce.2.2.2.2.2.2.2.2.2.2.2.2.1,cw hb0 3⟩)
     go_upto_region 3 with fail
     have hS_:=KEEP.out _ _ _ _ N3.out rfl zB
     have e0_:=hS_.1
     have e1_:=hS_.2
     clear hS_
     have PIN:=AS (show ∀ W',Below wc.heap.size wc W'->bB dA 132 #[bA (M ⟨p.bp,0,U⟩)] W' (RQ (V I n.cpu.pinned) W') from fun W' hb=>(N3.out.below hb).have_ fun K1 h=>pinned_any h.1.2.2.2.2.1)
     generalize n.cpu.pinned=pin at *
     go_cut [36] (fun v36 wx=>v36=aA (!decide (pin=b))/\NX c { n with know:=kn } o p K w [(g+1,(O #[V I d0,V I d1,V I d2] 74:Obj)),(g,(O #[V I k,V I f,V I t,V I b,V I qq,V I wh,aA wr,V I c0,aA oo,aA hh,V I dd] 47:Obj))] wx)
     case first =>
      go_region_held3 (fun x=>x.cell? ⟨pb,12,U⟩=M (bA (M ⟨p.bp,0,U⟩))/\x.cell? ⟨g,3,U⟩=M (V I b)) (((try dsimp only);apply KEEP.out;(focus (with_reducible first | apply N3.out | apply N3.out.drew));exact rfl;(all_goals simp))) ((first | (go_at_call 132;refine(PIN.out _ (by repeat (first | with_reducible exact fA _ _ | with_reducible apply eA | with_reducible apply iA | refine oA ?_ (by dsimp only;omega) _))).mono ?_;rintro e w4 ⟨rfl,rfl⟩)))
      all_goals
       go_wp2_with fail
       go_meet
       exact⟨by first | rfl | (simp[go_sem];done),N3.out.drew⟩
     case rest =>
      obtain⟨rfl,hcut⟩:=hcut
      have N4:=AS hcut
      clear hcut KEEP PIN N3 e0_ e1_
      by_cases hp:pin=b
      case pos =>
       have hr:=HR.out.trans (if_neg (by simp[hp]))
       have hv:(!decide (pin=b))=false:=by simp[hp]
       rw[hv]
       go_wp2
       go_end0
       (try rw[hr])
       exact NOP.ns rfl N4.out.ns
      case neg =>
       have hr:=HR.out.trans (if_pos hp)
       have hv:(!decide (pin=b))=true:=by simp[hp]
       rw[hv]
       have l3:=cw (N4.out.at_ (g:=g) (ob:=O #[V I k,V I f,V I t,V I b,V I qq,V I wh,aA wr,V I c0,aA oo,aA hh,V I dd] 47) zB) 3 (v:=V I b)
       have EN:=AS (N4.out.call (fun K1 h=>nodeEnd_any h (by have:=HL.out.1;omega) b))
       rw[hpb] at EN
       go_wp2_with fail
       refine EN.out.mono ?_
       rintro e w7 ⟨rfl,h7⟩
       have N7:=AS h7
       clear h7 EN
       go_wp2
       go_end0
       (try rw[hr])
       exact NOP.ns rfl N7.out.ns
    case neg =>
     have hr:=HR.out.trans (if_neg hq)
     have hv:decide (wh=n.id)=false:=by simp[hq]
     rw[hv]
     clear hv hq HR
     have HR:=AS hr
     clear hr
     have GET:=AS (show ∀ W',Below wc.heap.size wc W'->bB dA 134 #[bA (M ⟨p.bc,0,U⟩),V I b] W' (RV (bunV (n.lines.tok b)) W') from fun W' hb=>(N3.out.below hb).have_ fun K1 h=>cacGet_any h.1.2.2.1 b)
     generalize hgot:n.lines.tok b=got at *
     obtain⟨h0,h1,h2,h3⟩:=got
     have TK:=AS (show ∀ bx W',NX c { n with know:=kn } o p K w bx W'->_ from fun bx W' h=>h.call (fun K1 h=>h.cacTake b h0 true true))
     simp only at TK HR
     generalize n.lines.take c b h0 true true=tk at *
     obtain⟨tl,t0,t1,t2,t3⟩:=tk
     simp only[bunV] at TK HR GET
     have FLD:=field45 h0 h1 h2 h3
     have KEEP:=AS (show ∀ (n':S.Node) (o':S.Out) (bx:List (Nat×Obj)) x,NX c n' o' p K w bx x->n'.id=n.id->(g,(O #[V I k,V I f,V I t,V I b,V I qq,V I wh,aA wr,V I c0,aA oo,aA hh,V I dd] 47:Obj))∈bx->(x.cell? ⟨pb,10,U⟩=M (bA (M ⟨p.bc,0,U⟩))/\x.cell? ⟨g,3,U⟩=M (V I b)) from fun n' o' bx x hx hid m0=>by
      have hce:=(show _ from by have h11:=hx.node;rw[hpb] at h11;exact CE.out n' _ hid h11)
      have hb0:=hx.at_ m0
      exact⟨hce.2.2.2.2.2.2.2.2.2.2.1,cw hb0 3⟩)
     go_upto_region 5 with fail
     have hS_:=KEEP.out _ _ _ _ N3.out rfl zB
     have e0_:=hS_.1
     have e1_:=hS_.2
     clear hS_
     go_cut [8] (fun v8 wx=>∃ a,v8=bA (M ⟨a,0,U⟩)/\NX c { n with know:=kn,lines:=tl } o p K w [(a,(O #[V I t0,aA t1,aA t2,V I t3] 45:Obj)),(g+1,(O #[V I d0,V I d1,V I d2] 74:Obj)),(g,(O #[V I k,V I f,V I t,V I b,V I qq,V I wh,aA wr,V I c0,aA oo,aA hh,V I dd] 47:Obj))] wx)
     case first =>
      go_region_held3 (fun x=>x.cell? ⟨pb,10,U⟩=M (bA (M ⟨p.bc,0,U⟩))/\x.cell? ⟨g,3,U⟩=M (V I b)) (((try dsimp only);apply KEEP.out;(focus (first | with_reducible apply N4.out | with_reducible apply NG.out | with_reducible apply N3.out | with_reducible apply N3.out.drew | (refine NX.below N4.out ?_;(repeat (first | with_reducible exact fA _ _ | with_reducible apply eA | with_reducible apply iA | refine oA ?_ (by dsimp only;omega) _));done) | (refine NX.below NG.out ?_;(repeat (first | with_reducible exact fA _ _ | with_reducible apply eA | with_reducible apply iA | refine oA ?_ (by dsimp only;omega) _));done) | (refine NX.below N3.out ?_;(repeat (first | with_reducible exact fA _ _ | with_reducible apply eA | with_reducible apply iA | refine oA ?_ (by dsimp only;omega) _));done) | (refine NX.pass N4.out ?_;(repeat (with_reducible first | exact qB _ _ | apply sB | apply tB));done)));exact rfl;(all_goals simp))) ((first | (go_at_call 134;refine(GET.out wc.drew (iA (fA _ _))).mono ?_;rintro e wg ⟨rfl,hbg⟩;have NG:=AS (show NX c { n with know:=kn } o p K w ([(g+1,(O #[V I d0,V I d1,V I d2] 74:Obj)),(g,(O #[V I k,V I f,V I t,V I b,V I qq,V I wh,aA wr,V I c0,aA oo,aA hh,V I dd] 47:Obj))]) wg from N3.out.drew.below hbg);clear hbg) | (go_at_call 134;refine(GET.out (wc.drew.alloc (O #[V I 0,aA false,aA false,V I 0] 45)) (eA (iA (fA _ _)) _)).mono ?_;rintro e wg ⟨rfl,hbg⟩;have NG:=AS (show NX c { n with know:=kn } o p K w ([(wc.heap.size,(O #[V I 0,aA false,aA false,V I 0] 45:Obj)),(g+1,(O #[V I d0,V I d1,V I d2] 74:Obj)),(g,(O #[V I k,V I f,V I t,V I b,V I qq,V I wh,aA wr,V I c0,aA oo,aA hh,V I dd] 47:Obj))]) wg from(N3.out.drew.box (O #[V I 0,aA false,aA false,V I 0] 45)).below hbg);clear hbg) | (go_at_call 135;refine(TK.out _ _ NG.out).mono ?_;rintro e w4 ⟨rfl,h4⟩;(first | (have N4:=AS (show NX c { n with know:=kn,lines:=tl } o p K w ([(wc.heap.size,(O #[V I 0,aA false,aA false,V I 0] 45:Obj)),(g+1,(O #[V I d0,V I d1,V I d2] 74:Obj)),(g,(O #[V I k,V I f,V I t,V I b,V I qq,V I wh,aA wr,V I c0,aA oo,aA hh,V I dd] 47:Obj))]) w4 from h4);clear h4;have Z:=AS (show w4.heap[wc.heap.size]?=M (O #[V I 0,aA false,aA false,V I 0] 45) from N4.out.at_ (wA));have z0:w4.cell? ⟨wc.heap.size,0,U⟩=M (V I 0):=cw Z.out 0;have zz0:w4.frozen? ⟨wc.heap.size,0,U⟩=false:=jA Z.out 0;have z1:w4.cell? ⟨wc.heap.size,1,U⟩=M (aA false):=cw Z.out 1;have zz1:w4.frozen? ⟨wc.heap.size,1,U⟩=false:=jA Z.out 1;have z2:w4.cell? ⟨wc.heap.size,2,U⟩=M (aA false):=cw Z.out 2;have zz2:w4.frozen? ⟨wc.heap.size,2,U⟩=false:=jA Z.out 2;have z3:w4.cell? ⟨wc.heap.size,3,U⟩=M (V I 0):=cw Z.out 3;have zz3:w4.frozen? ⟨wc.heap.size,3,U⟩=false:=jA Z.out 3) | (have N4:=AS (show NX c { n with know:=kn,lines:=tl } o p K w ([(g+1,(O #[V I d0,V I d1,V I d2] 74:Obj)),(g,(O #[V I k,V I f,V I t,V I b,V I qq,V I wh,aA wr,V I c0,aA oo,aA hh,V I dd] 47:Obj))]) w4 from h4);clear h4;have Z:=AS (show(w4.alloc (O #[V I 0,aA false,aA false,V I 0] 45)).heap[w4.heap.size]?=M (O #[V I 0,aA false,aA false,V I 0] 45) from nA w4 _);have z0:(w4.alloc (O #[V I 0,aA false,aA false,V I 0] 45)).cell? ⟨w4.heap.size,0,U⟩=M (V I 0):=cw Z.out 0;have zz0:(w4.alloc (O #[V I 0,aA false,aA false,V I 0] 45)).frozen? ⟨w4.heap.size,0,U⟩=false:=jA Z.out 0;have z1:(w4.alloc (O #[V I 0,aA false,aA false,V I 0] 45)).cell? ⟨w4.heap.size,1,U⟩=M (aA false):=cw Z.out 1;have zz1:(w4.alloc (O #[V I 0,aA false,aA false,V I 0] 45)).frozen? ⟨w4.heap.size,1,U⟩=false:=jA Z.out 1;have z2:(w4.alloc (O #[V I 0,aA false,aA false,V I 0] 45)).cell? ⟨w4.heap.size,2,U⟩=M (aA false):=cw Z.out 2;have zz2:(w4.alloc (O #[V I 0,aA false,aA false,V I 0] 45)).frozen? ⟨w4.heap.size,2,U⟩=false:=jA Z.out 2;have z3:(w4.alloc (O #[V I 0,aA false,aA false,V I 0] 45)).cell? ⟨w4.heap.size,3,U⟩=M (V I 0):=cw Z.out 3;have zz3:(w4.alloc (O #[V I 0,aA false,aA false,V I 0] 45)).frozen? ⟨w4.heap.size,3,U⟩=false:=jA Z.out 3))) | (go_at_call 135;refine(TK.out _ _ (NG.out.box (O #[V I 0,aA false,aA false,V I 0] 45))).mono ?_;rintro e w4 ⟨rfl,h4⟩;have N4:=AS (show NX c { n with know:=kn,lines:=tl } o p K w ([(wg.heap.size,(O #[V I 0,aA false,aA false,V I 0] 45:Obj)),(g+1,(O #[V I d0,V I d1,V I d2] 74:Obj)),(g,(O #[V I k,V I f,V I t,V I b,V I qq,V I wh,aA wr,V I c0,aA oo,aA hh,V I dd] 47:Obj))]) w4 from h4);clear h4;have Z:=AS (show w4.heap[wg.heap.size]?=M (O #[V I 0,aA false,aA false,V I 0] 45) from N4.out.at_ (wA));have z0:w4.cell? ⟨wg.heap.size,0,U⟩=M (V I 0):=cw Z.out 0;have zz0:=jA Z.out 0;have z1:w4.cell? ⟨wg.heap.size,1,U⟩=M (aA false):=cw Z.out 1;have zz1:w4.frozen? ⟨wg.heap.size,1,U⟩=false:=jA Z.out 1;have z2:w4.cell? ⟨wg.heap.size,2,U⟩=M (aA false):=cw Z.out 2;have zz2:w4.frozen? ⟨wg.heap.size,2,U⟩=false:=jA Z.out 2;have z3:w4.cell? ⟨wg.heap.size,3,U⟩=M (V I 0):=cw Z.out 3;have zz3:w4.frozen? ⟨wg.heap.size,3,U⟩=false:=jA Z.out 3)))
      all_goals
       go_wp2_with fail
       go_meet
       refine⟨_,rfl,?_⟩
       first
        | (with_reducible apply NX.put N4.out;(focus ((repeat (with_reducible first | exact qB _ _ | apply sB | apply tB));done));exact(mA (mA (mA (mA Z.out 0 _) 1 _) 2 _) 3 _).trans zB)
        | (with_reducible apply NX.new N4.out;(focus ((repeat (first | with_reducible exact fA _ _ | with_reducible apply eA | with_reducible apply iA | refine oA ?_ (by dsimp only;omega) _));done));(focus (exact pA _));exact(mA (mA (mA (mA Z.out 0 _) 1 _) 2 _) 3 _).trans zB)
        | with_reducible apply N4.out.box
     case rest =>
      obtain⟨a,rfl,hcut⟩:=hcut
      have N5:=AS hcut
      clear hcut TK GET KEEP N3 e0_ e1_
      have hr:=HR.out
      by_cases hq:t0 > 0
      case pos =>
       rw[if_pos hq] at hr
       have hq':(0:Int) < t0:=vB
       have z0:=cw (N5.out.at_ (g:=a) (ob:=O #[V I t0,aA t1,aA t2,V I t3] 45) zB) 0 (v:=V I t0)
       have KEEP:=AS (show ∀ (n':S.Node) (o':S.Out) (bx:List (Nat×Obj)) x,NX c n' o' p K w bx x->n'.id=n.id->(g,(O #[V I k,V I f,V I t,V I b,V I qq,V I wh,aA wr,V I c0,aA oo,aA hh,V I dd] 47:Obj))∈bx->(a,(O #[V I t0,aA t1,aA t2,V I t3] 45:Obj))∈bx->(x.cell? ⟨pb,9,U⟩=M (V I n.id)/\x.cell? ⟨g,5,U⟩=M (V I wh)/\x.cell? ⟨g,3,U⟩=M (V I b)/\x.cell? ⟨a,0,U⟩=M (V I t0)/\x.cell? ⟨a,1,U⟩=M (aA t1)/\x.cell? ⟨a,2,U⟩=M (aA t2)/\x.cell? ⟨a,3,U⟩=M (V I t3)) from fun n' o' bx x hx hid m0 m1=>by
        have hce:=(show _ from by have h11:=hx.node;rw[hpb] at h11;exact CE.out n' _ hid h11)
        have hb0:=hx.at_ m0
        have hb1:=hx.at_ m1
        exact⟨hce.2.2.2.2.2.2.2.2.2.1,cw hb0 5,cw hb0 3,cw hb1 0,cw hb1 1,cw hb1 2,cw hb1 3⟩)
       go_upto_region 7 with fail
       have hS_:=KEEP.out _ _ _ _ N5.out rfl zB zB
       have e0_:=hS_.1
       have e1_:=hS_.2.1
       have e2_:=hS_.2.2.1
       have e3_:=hS_.2.2.2.1
       have e4_:=hS_.2.2.2.2.1
       have e5_:=hS_.2.2.2.2.2.1
       have e6_:=hS_.2.2.2.2.2.2
       clear hS_
       go_region_held3 (fun x=>x.cell? ⟨pb,9,U⟩=M (V I n.id)/\x.cell? ⟨g,5,U⟩=M (V I wh)/\x.cell? ⟨g,3,U⟩=M (V I b)/\x.cell? ⟨a,0,U⟩=M (V I t0)/\x.cell? ⟨a,1,U⟩=M (aA t1)/\x.cell? ⟨a,2,U⟩=M (aA t2)/\x.cell? ⟨a,3,U⟩=M (V I t3)) (((try dsimp only);apply KEEP.out;(focus (with_reducible first | apply N7.out | apply N6.out | apply N5.out | apply N5.out.drew));exact rfl;(all_goals simp))) ((first | (go_at_call 130;refine(tokens_any _ _ _ _ _ _ _ _).mono ?_;rintro e w6 ⟨rfl,hb6⟩;have N6:=AS (N5.out.below (show Below wc.heap.size wc w6 from(iA (fA _ _)).trans (hb6.mono (pA _))));clear hb6;simp only[letV,tokensL]) | (go_at_call 97;refine(N6.out.call (fun K1 h=>h.send (by have:=HL.out.1;omega) ⟨1,n.id,wh,b,0,0,false,⟨t0,t1,t2,t3⟩⟩)).mono ?_;rintro e w7 ⟨rfl,h7⟩;have N7:=AS h7;clear h7)))
       go_wp2
       go_end0
       (try rw[hr])
       exact NOP.ns rfl N7.out.ns
      case neg =>
       rw[if_neg hq] at hr
       have hq':¬ (0:Int) < t0:=vB
       have z0:=cw (N5.out.at_ (g:=a) (ob:=O #[V I t0,aA t1,aA t2,V I t3] 45) zB) 0 (v:=V I t0)
       go_wp2
       go_end0
       (try rw[hr])
       exact NOP.ns rfl N5.out.ns
theorem homeBegin_any {c:Cfg} {h:S.Home} {b bm bq:Nat} {K:Nat->Nat} {w:cA} (hH:HomeK c h b bm bq K w) (r:Option S.Act):bB dA 124 #[bA (M ⟨b,0,U⟩),actV (r.getD act0),aA r.isSome] w (HRet c (h.begin_ c (h.queue,r)).1 (h.begin_ c (h.queue,r)).2 b bm bq K w):=by
 have N0:=AS (GX.refl (m:=2) hH)
 cases r with
 | none =>
  show bB dA 124 #[bA (M ⟨b,0,U⟩),.agg #[V I 0,V I 0,V I 0],aA false] w (HRet c h [] b bm bq K w)
  clear hH
  go_enter Tryz.func124,Tryz.ntmps124
  go_wp2
  go_ret
  exact HRet.none (GX.below (nB _ _ _ _ _) N0.out (by repeat (with_reducible first | exact fA _ _ | apply eA)))
 | some a =>
  obtain⟨a0,a1,a2⟩:=a
  have N1:=AS (GX.box (nB _ _ _ _ _) N0.out (O #[V I a0,V I a1,V I a2] 55))
  have HR:=AS (show h.begin_ c (h.queue,M ⟨a0,a1,a2⟩)=((h.memTake a0 (h.get a0).count true true).1,spread 4 c.nodes a0 a2 a1 c.nodes ++ Home.tokens c a1 a0 (h.memTake a0 (h.get a0).count true true).2) from rfl)
  generalize h.begin_ c (h.queue,M ⟨a0,a1,a2⟩)=R at *
  show bB dA 124 #[bA (M ⟨b,0,U⟩),.agg #[V I a0,V I a1,V I a2],aA true] w (HRet c R.1 R.2 b bm bq K w)
  clear hH N0
  go_enter Tryz.func124,Tryz.ntmps124
  go_upto_region 1 with fail
  generalize hg:w.heap.size=g at *
  generalize w.alloc (O #[V I a0,V I a1,V I a2] 55)=W at N1 ⊢
  go_upto_region 3 with fail
  have KEEP:=AS (show ∀ (h':S.Home) (bx:List (Nat×Obj)) x,GX (HomeK c h' b bm bq) 2 K w bx x->(g,(O #[V I a0,V I a1,V I a2] 55:Obj))∈bx->(x.cell? ⟨b,0,U⟩=M (V I c.nodes)/\x.cell? ⟨g,0,U⟩=M (V I a0)/\x.cell? ⟨g,1,U⟩=M (V I a1)/\x.cell? ⟨g,2,U⟩=M (V I a2)) from fun h' bx x hx m0=>by
   have h11:=hx.blkH
   have hb0:=hx.at_ m0
   exact⟨cw h11 0,cw hb0 0,cw hb0 1,cw hb0 2⟩)
  have hS_:=KEEP.out _ _ _ N1.out zB
  have e0_:=hS_.1
  have e1_:=hS_.2.1
  have e2_:=hS_.2.2.1
  have e3_:=hS_.2.2.2
  clear hS_
  have SP:=AS (spread_any 4 c.nodes a0 a2 a1 c.nodes W.drew)
  have HSL:=AS (show(spread 4 c.nodes a0 a2 a1 c.nodes).length≤64 from by unfold spread;simp;omega)
  generalize spread 4 c.nodes a0 a2 a1 c.nodes=sp at *
  go_cut [7] (fun v7 wx=>(∃ A cp,v7=J A sp.length cp)/\OwnE letE v7 sp wx/\∃ bx',GX (HomeK c h b bm bq) 2 K w (bx' ++ [(g,(O #[V I a0,V I a1,V I a2] 55:Obj))]) wx/\∀ x∈foot v7,∃ ob,(x,ob)∈bx')
  case first =>
   go_region_held3 (fun x=>x.cell? ⟨b,0,U⟩=M (V I c.nodes)/\x.cell? ⟨g,0,U⟩=M (V I a0)/\x.cell? ⟨g,1,U⟩=M (V I a1)/\x.cell? ⟨g,2,U⟩=M (V I a2)) (((try dsimp only);(first | (apply KEEP.out;(focus (first | (with_reducible apply N3.out) | (with_reducible apply N1.out) | (with_reducible apply (GX.drew (nB _ _ _ _ _) N1.out))));(all_goals simp))))) ((first | (go_at_call 127;refine SP.out.mono ?_;rintro e w3 ⟨v,rfl,hO,hb,hf⟩;have N3:=AS (GX.below (nB _ _ _ _ _) N1.out ((iA (fA _ _)).trans (hb.mono (pA _))));obtain⟨A1,c1,rfl,-⟩:=hO.row;have O3:=AS hO;have R3:=AS (GX.row (nB _ _ _ _ _) N1.out ((iA (fA _ _)).trans (hb.mono (pA _))) hO hf);clear hO hb hf)))
   all_goals
    go_wp2_with fail
    go_meet
    exact⟨⟨_,_,rfl⟩,O3.out,R3.out⟩
  case rest =>
   obtain⟨⟨A,cp,rfl⟩,hO,bx',hN,hx⟩:=hcut
   have N2:=AS hN
   have O2:=AS (qA hO hx)
   clear hO hN hx KEEP SP N1 e0_ e1_ e2_ e3_
   have GET:=AS (show ∀ W',Below wc.heap.size wc W'->bB dA 122 #[bA (M ⟨bm,0,U⟩),V I a0] W' (RV (bunV (h.get a0)) W') from fun W' hb=>(GX.below (nB _ _ _ _ _) N2.out hb).have_ fun K1 hh=>by rw[get_mem];exact memGet_any hh.2.2.1 a0)
   generalize hgot:h.get a0=got at *
   obtain⟨h0,h1,h2,h3⟩:=got
   have TK:=AS (show ∀ bx W',GX (HomeK c h b bm bq) 2 K w bx W'->_ from fun bx W' hx=>hx.call (fun K1 hh=>hh.take a0 h0 true true))
   simp only at TK HR
   generalize h.memTake a0 h0 true true=tk at *
   obtain⟨th,t0,t1,t2,t3⟩:=tk
   simp only[bunV] at TK GET
   simp only at HR
   have TO:=AS (show ∀ bx W',GX (HomeK c th b bm bq) 2 K w bx W'->bB dA 119 #[bA (M ⟨b,0,U⟩),V I a1,V I a0,.agg #[V I t0,aA t1,aA t2,V I t3]] W' (NewRow letE (Home.tokens c a1 a0 ⟨t0,t1,t2,t3⟩) W') from fun bx W' hx=>homeTokens_any hx.blkH a1 a0 ⟨t0,t1,t2,t3⟩)
   have HTL:=AS (show(Home.tokens c a1 a0 ⟨t0,t1,t2,t3⟩).length≤1 from by unfold Home.tokens;split <;> simp)
   generalize Home.tokens c a1 a0 ⟨t0,t1,t2,t3⟩=tl at *
   have FLD:=field45 h0 h1 h2 h3
   have KEEP:=AS (show ∀ (h':S.Home) (bx:List (Nat×Obj)) x,GX (HomeK c h' b bm bq) 2 K w bx x->(g,(O #[V I a0,V I a1,V I a2] 55:Obj))∈bx->(x.cell? ⟨b,9,U⟩=M (bA (M ⟨bm,0,U⟩))/\x.cell? ⟨g,0,U⟩=M (V I a0)/\x.cell? ⟨g,1,U⟩=M (V I a1)) from fun h' bx x hx m0=>by
    have h11:=hx.blkH
    have hb0:=hx.at_ m0
    exact⟨cw h11 9,cw hb0 0,cw hb0 1⟩)
   go_upto_region 4 with fail
   have hS_:=KEEP.out _ _ _ N2.out zB
   have e0_:=hS_.1
   have e1_:=hS_.2.1
   have e2_:=hS_.2.2
   clear hS_
   have S0:=show wc.drew.cell? ⟨b,9,U⟩=M (bA (M ⟨bm,0,U⟩))/\wc.drew.cell? ⟨g,0,U⟩=M (V I a0)/\wc.drew.cell? ⟨g,1,U⟩=M (V I a1) from KEEP.out _ _ _ (GX.drew (nB _ _ _ _ _) N2.out) zB
   have HNG:=AS (show ∀ x∈foot (J A sp.length cp),b≠x/\g≠x from fun x hxf=>by
    obtain⟨ob,hm⟩:=O2.out.2 x hxf
    refine⟨N2.out.apart (List.mem_append_left _ hm),fun e=>?_⟩
    obtain⟨K1,-,-,-,-,hD⟩:=N2.out
    rw[List.map_append] at hD
    exact(List.nodup_append.1 hD).2.2 x (List.mem_map.2 ⟨_,hm,rfl⟩) g zB e.symm)
   clear S0
   go_region_held3 (fun x=>x.cell? ⟨b,9,U⟩=M (bA (M ⟨bm,0,U⟩))/\x.cell? ⟨g,0,U⟩=M (V I a0)/\x.cell? ⟨g,1,U⟩=M (V I a1)) (((try dsimp only);(first | (exact S1.out) | (apply KEEP.out;(focus (first | (with_reducible apply N5.out) | (with_reducible apply N4.out) | (with_reducible apply N3.out) | (with_reducible apply N2.out) | (with_reducible apply (GX.drew (nB _ _ _ _ _) N2.out))));(all_goals simp))))) ((first | (go_at_call 122;refine(GET.out wc.drew (iA (fA _ _))).mono ?_;rintro e w3 ⟨rfl,hb3⟩;have N3:=AS (GX.below (nB _ _ _ _ _) N2.out ((iA (fA _ _)).trans (hb3.mono (pA _))));clear hb3) | (go_at_call 123;refine(TK.out _ _ N3.out).mono ?_;rintro e w4 ⟨rfl,h4⟩;have N4:=AS h4;clear h4) | (go_at_call 119;refine(TO.out _ _ N4.out).mono ?_;rintro e w5 ⟨v,rfl,hO,hf,hb⟩;obtain⟨A5,c5,rfl,hR5,-⟩:=hO.row;have N5:=AS (GX.below (nB _ _ _ _ _) N4.out hb);have R5:=AS hR5;clear hO hf hb hR5;have OA:=AS (GX.rowAt O2.out.1 O2.out.2 N2.out N5.out (fun q hq=>List.mem_append_left _ hq))) | (refine step_appE (E:=letE) (xs:=sp) (ys:=tl) xB _ _ rfl rfl rfl rfl (by exact OA.out) (by exact R5.out) (by have:=HSL.out;have:=HTL.out;show _ * 80≤_;omega) ?_;intro v1 w1 hO hK hf;have FI:=AS (HRet.app N5.out (fun x hq=>by obtain⟨ob,hm⟩:=O2.out.2 x hq;exact⟨ob,List.mem_append_left _ hm⟩) hK hO hf);have S1:=AS (show w1.cell? ⟨b,9,U⟩=M (bA (M ⟨bm,0,U⟩))/\w1.cell? ⟨g,0,U⟩=M (V I a0)/\w1.cell? ⟨g,1,U⟩=M (V I a1) from by have hk:=KS.keeps hK;have q1:=hk.at_ N5.out.blkH (fun hx=>(HNG.out b hx).1 rfl);have q2:=hk.at_ (N5.out.at_ (g:=g) (ob:=O #[V I a0,V I a1,V I a2] 55) zB) (fun hx=>(HNG.out g hx).2 rfl);exact⟨cw q1 9,cw q2 0,cw q2 1⟩);clear hO hK hf)))
   all_goals
    go_wp2
    go_ret
    rw[HR.out]
    exact FI.out
theorem begin_eq (c:Cfg) (h:S.Home) (r:Arb×Option S.Act):({ h with queue:=r.1 }:S.Home).begin_ c (r.1,r.2)=h.begin_ c r:=by
 obtain⟨r1,r2⟩:=r
 cases r2 <;> rfl
theorem HRet.after {c:Cfg} {h1 h2:S.Home} {b bm bq:Nat} {K:Nat->Nat} {w w1:cA} {bx:List (Nat×Obj)} {ls:List Let} {f:Nat} {args:Array Value} (hg:GX (HomeK c h1 b bm bq) 2 K w bx w1) (hs:∀ K1,HomeK c h1 b bm bq K1 w1->bB dA f args w1 (HRet c h2 ls b bm bq K1 w1)):bB dA f args w1 (fun e w'=>HRet c h2 ls b bm bq K w e w'/\(∀ q∈bx,w'.heap[q.1]?=M q.2)/\w'.heap[b]?=M (O (homeC c bm bq) 124 (0,0))):=by
 obtain⟨K1,ha,hN,hk,hB,hD⟩:=hg
 refine(hs K1 hN).mono ?_
 rintro e w2 ⟨v,K2,rfl,hb,hN2,hO,hf,hk2⟩
 have hsz:=hk.size
 refine⟨?_,fun q hq=>hk2.at_ (hB q hq).2.2 (by have:=(hB q hq).1;show ¬ K1 q.1≤2;omega),hN2.1⟩
 exact⟨v,K2,rfl,fun x hx=>(hb x vB).trans (ha x hx),hN2,hO,fun x hx=>⟨by have:=(hf x hx).1;omega,(hf x hx).2⟩,hk.trans hk2 (fun x hx h=>by rw[<- ha x hx];exact h)⟩
theorem homePersist_any {c:Cfg} {h:S.Home} {b_ bm bq:Nat} {K:Nat->Nat} {w:cA} (hH:HomeK c h b_ bm bq K w) (hql:∀ r∈h.queue.rows,r.queue.length≤1000000) (l:Let) (d:Drw):bB dA 89 #[bA (M ⟨b_,0,U⟩),letV l,drwV d] w (HRet c (h.begin_ c (h.queue.ask l.block l.src)).1 (h.begin_ c (h.queue.ask l.block l.src)).2 b_ bm bq K w):=by
 obtain⟨k,f,t,b,qq,wh,wr,⟨c0,oo,hh,dd⟩⟩:=l
 obtain⟨d0,d1,d2⟩:=d
 have N1:=AS (GX.box (nB _ _ _ _ _) (GX.box (nB _ _ _ _ _) (GX.refl (m:=2) hH) (O #[V I k,V I f,V I t,V I b,V I qq,V I wh,aA wr,V I c0,aA oo,aA hh,V I dd] 47)) (O #[V I d0,V I d1,V I d2] 74))
 rw[show(w.alloc (O #[V I k,V I f,V I t,V I b,V I qq,V I wh,aA wr,V I c0,aA oo,aA hh,V I dd] 47)).heap.size=w.heap.size+1 by simp] at N1
 show bB dA 89 #[bA (M ⟨b_,0,U⟩),.agg #[V I k,V I f,V I t,V I b,V I qq,V I wh,aA wr,V I c0,aA oo,aA hh,V I dd],.agg #[V I d0,V I d1,V I d2]] w (HRet c (h.begin_ c (h.queue.ask b f)).1 (h.begin_ c (h.queue.ask b f)).2 b_ bm bq K w)
 clear hH
 go_enter Tryz.func89,Tryz.ntmps89
 go_upto_region 1 with fail
 generalize ((w.alloc (O #[V I k,V I f,V I t,V I b,V I qq,V I wh,aA wr,V I c0,aA oo,aA hh,V I dd] 47)).alloc (O #[V I d0,V I d1,V I d2] 74))=W at N1 ⊢
 generalize hg:w.heap.size=g at *
 have KEEP:=AS (show ∀ (h':S.Home) (bx:List (Nat×Obj)) x,GX (HomeK c h' b_ bm bq) 2 K w bx x->(g,(O #[V I k,V I f,V I t,V I b,V I qq,V I wh,aA wr,V I c0,aA oo,aA hh,V I dd] 47:Obj))∈bx->(x.cell? ⟨b_,10,U⟩=M (bA (M ⟨bq,0,U⟩))/\x.cell? ⟨g,3,U⟩=M (V I b)/\x.cell? ⟨g,1,U⟩=M (V I f)) from fun h' bx x hx m0=>by
  have h11:=hx.blkH
  have hb0:=hx.at_ m0
  exact⟨cw h11 10,cw hb0 3,cw hb0 1⟩)
 have hS_:=KEEP.out _ _ _ N1.out zB
 have e0_:=hS_.1
 have e1_:=hS_.2.1
 have e2_:=hS_.2.2
 clear hS_
 have AK:=AS ((GX.drew (nB _ _ _ _ _) N1.out).call (fun K1 hh=>hh.ask b f hql))
 rw[<- begin_eq]
 generalize h.queue.ask b f=rr at *
 obtain⟨r1,r2⟩:=rr
 simp only at AK ⊢
 have BG:=AS (show ∀ bx W',GX (HomeK c { h with queue:=r1 } b_ bm bq) 2 K w bx W'->_ from fun bx W' hx=>HRet.after hx (fun K1 hh=>homeBegin_any hh r2))
 have HAV:=AS (show actO r2=.tuple #[.agg #[V I (r2.getD act0).block,V I (r2.getD act0).node,V I (r2.getD act0).seq],aA r2.isSome] from rfl)
 rw[HAV.out] at AK
 simp only[actV] at BG
 clear HAV
 generalize (r2.getD act0).block=m1 at *
 generalize (r2.getD act0).node=m2 at *
 generalize (r2.getD act0).seq=m3 at *
 generalize r2.isSome=m4 at *
 go_region_held3 (fun x=>x.cell? ⟨b_,10,U⟩=M (bA (M ⟨bq,0,U⟩))/\x.cell? ⟨g,3,U⟩=M (V I b)/\x.cell? ⟨g,1,U⟩=M (V I f)) (((try dsimp only);(first | (exact S3.out) | (apply KEEP.out;(focus (first | (with_reducible apply N2.out) | (with_reducible apply N1.out) | (with_reducible apply (GX.drew (nB _ _ _ _ _) N1.out))));(all_goals simp))))) ((first | (go_at_call 125;refine AK.out.mono ?_;rintro e w2 ⟨rfl,h2⟩;have N2:=AS h2;clear h2) | (go_at_call 124;refine(BG.out _ _ N2.out).mono ?_;rintro e w3 ⟨hR,hB3,hb3⟩;obtain⟨v,K3,rfl,r3⟩:=hR;have F3:=AS (show HRet c _ _ b_ bm bq K w (.returned v) w3 from⟨v,K3,rfl,r3⟩);have S3:=AS (show w3.cell? ⟨b_,10,U⟩=M (bA (M ⟨bq,0,U⟩))/\w3.cell? ⟨g,3,U⟩=M (V I b)/\w3.cell? ⟨g,1,U⟩=M (V I f) from by have q2:=hB3 (g,O #[V I k,V I f,V I t,V I b,V I qq,V I wh,aA wr,V I c0,aA oo,aA hh,V I dd] 47) zB;exact⟨cw hb3 10,cw q2 3,cw q2 1⟩);clear r3 hB3 hb3)))
 all_goals
  go_wp2
  go_ret
  exact F3.out
theorem homeAck_any {c:Cfg} {h:S.Home} {b_ bm bq:Nat} {K:Nat->Nat} {w:cA} (hH:HomeK c h b_ bm bq K w) (l:Let) (d:Drw):bB dA 91 #[bA (M ⟨b_,0,U⟩),letV l,drwV d] w (HRet c (h.begin_ c (h.queue.ack l.block l.seq l.src)).1 (h.begin_ c (h.queue.ack l.block l.seq l.src)).2 b_ bm bq K w):=by
 obtain⟨k,f,t,b,qq,wh,wr,⟨c0,oo,hh,dd⟩⟩:=l
 obtain⟨d0,d1,d2⟩:=d
 have N1:=AS (GX.box (nB _ _ _ _ _) (GX.box (nB _ _ _ _ _) (GX.refl (m:=2) hH) (O #[V I k,V I f,V I t,V I b,V I qq,V I wh,aA wr,V I c0,aA oo,aA hh,V I dd] 47)) (O #[V I d0,V I d1,V I d2] 74))
 rw[show(w.alloc (O #[V I k,V I f,V I t,V I b,V I qq,V I wh,aA wr,V I c0,aA oo,aA hh,V I dd] 47)).heap.size=w.heap.size+1 by simp] at N1
 show bB dA 91 #[bA (M ⟨b_,0,U⟩),.agg #[V I k,V I f,V I t,V I b,V I qq,V I wh,aA wr,V I c0,aA oo,aA hh,V I dd],.agg #[V I d0,V I d1,V I d2]] w (HRet c (h.begin_ c (h.queue.ack b qq f)).1 (h.begin_ c (h.queue.ack b qq f)).2 b_ bm bq K w)
 clear hH
 go_enter Tryz.func91,Tryz.ntmps91
 go_upto_region 1 with fail
 generalize ((w.alloc (O #[V I k,V I f,V I t,V I b,V I qq,V I wh,aA wr,V I c0,aA oo,aA hh,V I dd] 47)).alloc (O #[V I d0,V I d1,V I d2] 74))=W at N1 ⊢
 generalize hg:w.heap.size=g at *
 have KEEP:=AS (show ∀ (h':S.Home) (bx:List (Nat×Obj)) x,GX (HomeK c h' b_ bm bq) 2 K w bx x->(g,(O #[V I k,V I f,V I t,V I b,V I qq,V I wh,aA wr,V I c0,aA oo,aA hh,V I dd] 47:Obj))∈bx->(x.cell? ⟨b_,10,U⟩=M (bA (M ⟨bq,0,U⟩))/\x.cell? ⟨g,3,U⟩=M (V I b)/\x.cell? ⟨g,4,U⟩=M (V I qq)/\x.cell? ⟨g,1,U⟩=M (V I f)) from fun h' bx x hx m0=>by
  have h11:=hx.blkH
  have hb0:=hx.at_ m0
  exact⟨cw h11 10,cw hb0 3,cw hb0 4,cw hb0 1⟩)
 have hS_:=KEEP.out _ _ _ N1.out zB
 have e0_:=hS_.1
 have e1_:=hS_.2.1
 have e2_:=hS_.2.2.1
 have e3_:=hS_.2.2.2
 clear hS_
 have AK:=AS ((GX.drew (nB _ _ _ _ _) N1.out).call (fun K1 hh=>hh.ack b qq f))
 rw[<- begin_eq]
 generalize h.queue.ack b qq f=rr at *
 obtain⟨r1,r2⟩:=rr
 simp only at AK ⊢
 have BG:=AS (show ∀ bx W',GX (HomeK c { h with queue:=r1 } b_ bm bq) 2 K w bx W'->_ from fun bx W' hx=>HRet.after hx (fun K1 hh=>homeBegin_any hh r2))
 have HAV:=AS (show actO r2=.tuple #[.agg #[V I (r2.getD act0).block,V I (r2.getD act0).node,V I (r2.getD act0).seq],aA r2.isSome] from rfl)
 rw[HAV.out] at AK
 simp only[actV] at BG
 clear HAV
 generalize (r2.getD act0).block=m1 at *
 generalize (r2.getD act0).node=m2 at *
 generalize (r2.getD act0).seq=m3 at *
 generalize r2.isSome=m4 at *
 go_region_held3 (fun x=>x.cell? ⟨b_,10,U⟩=M (bA (M ⟨bq,0,U⟩))/\x.cell? ⟨g,3,U⟩=M (V I b)/\x.cell? ⟨g,4,U⟩=M (V I qq)/\x.cell? ⟨g,1,U⟩=M (V I f)) (((try dsimp only);(first | (exact S3.out) | (apply KEEP.out;(focus (first | (with_reducible apply N2.out) | (with_reducible apply N1.out) | (with_reducible apply (GX.drew (nB _ _ _ _ _) N1.out))));(all_goals simp))))) ((first | (go_at_call 128;refine AK.out.mono ?_;rintro e w2 ⟨rfl,h2⟩;have N2:=AS h2;clear h2) | (go_at_call 124;refine(BG.out _ _ N2.out).mono ?_;rintro e w3 ⟨hR,hB3,hb3⟩;obtain⟨v,K3,rfl,r3⟩:=hR;have F3:=AS (show HRet c _ _ b_ bm bq K w (.returned v) w3 from⟨v,K3,rfl,r3⟩);have S3:=AS (show w3.cell? ⟨b_,10,U⟩=M (bA (M ⟨bq,0,U⟩))/\w3.cell? ⟨g,3,U⟩=M (V I b)/\w3.cell? ⟨g,4,U⟩=M (V I qq)/\w3.cell? ⟨g,1,U⟩=M (V I f) from by have q2:=hB3 (g,O #[V I k,V I f,V I t,V I b,V I qq,V I wh,aA wr,V I c0,aA oo,aA hh,V I dd] 47) zB;exact⟨cw hb3 10,cw q2 3,cw q2 4,cw q2 1⟩);clear r3 hB3 hb3)))
 all_goals
  go_wp2
  go_ret
  exact F3.out
theorem homeDone_any {c:Cfg} {h:S.Home} {b_ bm bq:Nat} {K:Nat->Nat} {w:cA} (hH:HomeK c h b_ bm bq K w) (l:Let) (d:Drw):bB dA 90 #[bA (M ⟨b_,0,U⟩),letV l,drwV d] w (HRet c { h with queue:=(h.queue.done l.block l.seq).1 } (if (h.queue.done l.block l.seq).2 then spread 6 c.nodes l.block l.seq 0 c.nodes else []) b_ bm bq K w):=by
 obtain⟨k,f,t,b,qq,wh,wr,⟨c0,oo,hh,dd⟩⟩:=l
 obtain⟨d0,d1,d2⟩:=d
 have N1:=AS (GX.box (nB _ _ _ _ _) (GX.box (nB _ _ _ _ _) (GX.refl (m:=2) hH) (O #[V I k,V I f,V I t,V I b,V I qq,V I wh,aA wr,V I c0,aA oo,aA hh,V I dd] 47)) (O #[V I d0,V I d1,V I d2] 74))
 rw[show(w.alloc (O #[V I k,V I f,V I t,V I b,V I qq,V I wh,aA wr,V I c0,aA oo,aA hh,V I dd] 47)).heap.size=w.heap.size+1 by simp] at N1
 show bB dA 90 #[bA (M ⟨b_,0,U⟩),.agg #[V I k,V I f,V I t,V I b,V I qq,V I wh,aA wr,V I c0,aA oo,aA hh,V I dd],.agg #[V I d0,V I d1,V I d2]] w (HRet c { h with queue:=(h.queue.done b qq).1 } (if (h.queue.done b qq).2 then spread 6 c.nodes b qq 0 c.nodes else []) b_ bm bq K w)
 clear hH
 go_enter Tryz.func90,Tryz.ntmps90
 go_upto_region 1 with fail
 generalize ((w.alloc (O #[V I k,V I f,V I t,V I b,V I qq,V I wh,aA wr,V I c0,aA oo,aA hh,V I dd] 47)).alloc (O #[V I d0,V I d1,V I d2] 74))=W at N1 ⊢
 generalize hg:w.heap.size=g at *
 have KEEP:=AS (show ∀ (h':S.Home) (bx:List (Nat×Obj)) x,GX (HomeK c h' b_ bm bq) 2 K w bx x->(g,(O #[V I k,V I f,V I t,V I b,V I qq,V I wh,aA wr,V I c0,aA oo,aA hh,V I dd] 47:Obj))∈bx->(x.cell? ⟨b_,10,U⟩=M (bA (M ⟨bq,0,U⟩))/\x.cell? ⟨g,3,U⟩=M (V I b)/\x.cell? ⟨g,4,U⟩=M (V I qq)) from fun h' bx x hx m0=>by
  have h11:=hx.blkH
  have hb0:=hx.at_ m0
  exact⟨cw h11 10,cw hb0 3,cw hb0 4⟩)
 have hS_:=KEEP.out _ _ _ N1.out zB
 have e0_:=hS_.1
 have e1_:=hS_.2.1
 have e2_:=hS_.2.2
 clear hS_
 have AK:=AS ((GX.drew (nB _ _ _ _ _) N1.out).call (fun K1 hh=>hh.done b qq))
 generalize h.queue.done b qq=rr at *
 obtain⟨r1,r2⟩:=rr
 simp only at AK ⊢
 go_cut [16] (fun v16 wx=>v16=aA (!r2)/\GX (HomeK c { h with queue:=r1 } b_ bm bq) 2 K w [(g+1,(O #[V I d0,V I d1,V I d2] 74:Obj)),(g,(O #[V I k,V I f,V I t,V I b,V I qq,V I wh,aA wr,V I c0,aA oo,aA hh,V I dd] 47:Obj))] wx)
 case first =>
  go_region_held3 (fun x=>x.cell? ⟨b_,10,U⟩=M (bA (M ⟨bq,0,U⟩))/\x.cell? ⟨g,3,U⟩=M (V I b)/\x.cell? ⟨g,4,U⟩=M (V I qq)) (((try dsimp only);(first | (apply KEEP.out;(focus (first | (with_reducible apply N2.out) | (with_reducible apply N1.out) | (with_reducible apply (GX.drew (nB _ _ _ _ _) N1.out))));(all_goals simp))))) ((first | (go_at_call 126;refine AK.out.mono ?_;rintro e w2 ⟨rfl,h2⟩;have N2:=AS h2;clear h2)))
  all_goals
   go_wp2_with fail
   go_meet
   exact⟨rfl,N2.out⟩
 case rest =>
  obtain⟨rfl,hcut⟩:=hcut
  have N2:=AS hcut
  clear hcut KEEP AK N1 e0_ e1_ e2_
  cases r2
  case false =>
   go_wp2
   go_ret
   exact HRet.none N2.out
  case true =>
   (try simp only[if_true])
   have KEEP:=AS (show ∀ (h':S.Home) (bx:List (Nat×Obj)) x,GX (HomeK c h' b_ bm bq) 2 K w bx x->(g,(O #[V I k,V I f,V I t,V I b,V I qq,V I wh,aA wr,V I c0,aA oo,aA hh,V I dd] 47:Obj))∈bx->(x.cell? ⟨b_,0,U⟩=M (V I c.nodes)/\x.cell? ⟨g,3,U⟩=M (V I b)/\x.cell? ⟨g,4,U⟩=M (V I qq)) from fun h' bx x hx m0=>by
    have h11:=hx.blkH
    have hb0:=hx.at_ m0
    exact⟨cw h11 0,cw hb0 3,cw hb0 4⟩)
   go_upto_region 3 with fail
   have hS_:=KEEP.out _ _ _ N2.out zB
   have e0_:=hS_.1
   have e1_:=hS_.2.1
   have e2_:=hS_.2.2
   clear hS_
   have SP:=AS (spread_any 6 c.nodes b qq 0 c.nodes wc.drew)
   generalize spread 6 c.nodes b qq 0 c.nodes=sp at *
   go_region_held3 (fun x=>x.cell? ⟨b_,0,U⟩=M (V I c.nodes)/\x.cell? ⟨g,3,U⟩=M (V I b)/\x.cell? ⟨g,4,U⟩=M (V I qq)) (((try dsimp only);(first | (apply KEEP.out;(focus (first | (with_reducible apply N3.out) | (with_reducible apply N2.out) | (with_reducible apply (GX.drew (nB _ _ _ _ _) N2.out))));(all_goals simp))))) ((first | (go_at_call 127;refine SP.out.mono ?_;rintro e w3 ⟨v,rfl,hO,hb,hf⟩;have N3:=AS (GX.below (nB _ _ _ _ _) N2.out ((iA (fA _ _)).trans (hb.mono (pA _))));have F3:=AS (HRet.new N2.out ((iA (fA _ _)).trans (hb.mono (pA _))) hO hf);clear hO hb hf)))
   all_goals
    go_wp2
    go_ret
    exact F3.out
theorem homeAsk_any {c:Cfg} {h:S.Home} {b_ bm bq:Nat} {K:Nat->Nat} {w:cA} (hH:HomeK c h b_ bm bq K w) (l:Let) (d:Drw):bB dA 88 #[bA (M ⟨b_,0,U⟩),letV l,drwV d] w (HRet c (h.memTake l.block (reply c.policy (h.get l.block) l.write d).1 (reply c.policy (h.get l.block) l.write d).2.1 (reply c.policy (h.get l.block) l.write d).2.2).1 (Home.tokens c l.src l.block (h.memTake l.block (reply c.policy (h.get l.block) l.write d).1 (reply c.policy (h.get l.block) l.write d).2.1 (reply c.policy (h.get l.block) l.write d).2.2).2) b_ bm bq K w):=by
 obtain⟨k,f,t,b,qq,wh,wr,⟨c0,oo,hh,dd⟩⟩:=l
 obtain⟨d0,d1,d2⟩:=d
 have N1:=AS (GX.box (nB _ _ _ _ _) (GX.box (nB _ _ _ _ _) (GX.refl (m:=2) hH) (O #[V I k,V I f,V I t,V I b,V I qq,V I wh,aA wr,V I c0,aA oo,aA hh,V I dd] 47)) (O #[V I d0,V I d1,V I d2] 74))
 rw[show(w.alloc (O #[V I k,V I f,V I t,V I b,V I qq,V I wh,aA wr,V I c0,aA oo,aA hh,V I dd] 47)).heap.size=w.heap.size+1 by simp] at N1
 show bB dA 88 #[bA (M ⟨b_,0,U⟩),.agg #[V I k,V I f,V I t,V I b,V I qq,V I wh,aA wr,V I c0,aA oo,aA hh,V I dd],.agg #[V I d0,V I d1,V I d2]] w (HRet c (h.memTake b (reply c.policy (h.get b) wr ⟨d0,d1,d2⟩).1 (reply c.policy (h.get b) wr ⟨d0,d1,d2⟩).2.1 (reply c.policy (h.get b) wr ⟨d0,d1,d2⟩).2.2).1 (Home.tokens c f b (h.memTake b (reply c.policy (h.get b) wr ⟨d0,d1,d2⟩).1 (reply c.policy (h.get b) wr ⟨d0,d1,d2⟩).2.1 (reply c.policy (h.get b) wr ⟨d0,d1,d2⟩).2.2).2) b_ bm bq K w)
 clear hH
 go_enter Tryz.func88,Tryz.ntmps88
 go_upto_region 1 with fail
 generalize ((w.alloc (O #[V I k,V I f,V I t,V I b,V I qq,V I wh,aA wr,V I c0,aA oo,aA hh,V I dd] 47)).alloc (O #[V I d0,V I d1,V I d2] 74))=W at N1 ⊢
 generalize hg:w.heap.size=g at *
 have KEEP:=AS (show ∀ (h':S.Home) (bx:List (Nat×Obj)) x,GX (HomeK c h' b_ bm bq) 2 K w bx x->(g,(O #[V I k,V I f,V I t,V I b,V I qq,V I wh,aA wr,V I c0,aA oo,aA hh,V I dd] 47:Obj))∈bx->(g+1,(O #[V I d0,V I d1,V I d2] 74:Obj))∈bx->(x.cell? ⟨b_,8,U⟩=M (V I c.policy)/\x.cell? ⟨b_,9,U⟩=M (bA (M ⟨bm,0,U⟩))/\x.cell? ⟨g,3,U⟩=M (V I b)/\x.cell? ⟨g,6,U⟩=M (aA wr)/\x.cell? ⟨g+1,0,U⟩=M (V I d0)/\x.cell? ⟨g+1,1,U⟩=M (V I d1)/\x.cell? ⟨g+1,2,U⟩=M (V I d2)) from fun h' bx x hx m0 m1=>by
  have h11:=hx.blkH
  have hb0:=hx.at_ m0
  have hb1:=hx.at_ m1
  exact⟨cw h11 8,cw h11 9,cw hb0 3,cw hb0 6,cw hb1 0,cw hb1 1,cw hb1 2⟩)
 have hS_:=KEEP.out _ _ _ N1.out zB zB
 have e0_:=hS_.1
 have e1_:=hS_.2.1
 have e2_:=hS_.2.2.1
 have e3_:=hS_.2.2.2.1
 have e4_:=hS_.2.2.2.2.1
 have e5_:=hS_.2.2.2.2.2.1
 have e6_:=hS_.2.2.2.2.2.2
 clear hS_
 have GET:=AS (show ∀ W',Below W.heap.size W W'->bB dA 122 #[bA (M ⟨bm,0,U⟩),V I b] W' (RV (bunV (h.get b)) W') from fun W' hb=>(GX.below (nB _ _ _ _ _) N1.out hb).have_ fun K1 hh=>by rw[get_mem];exact memGet_any hh.2.2.1 b)
 generalize hgot:h.get b=got at *
 obtain⟨h0,h1,h2,h3⟩:=got
 simp only[bunV] at GET
 generalize hre:reply c.policy ⟨h0,h1,h2,h3⟩ wr ⟨d0,d1,d2⟩=re at *
 obtain⟨p0,p1,p2⟩:=re
 have HRE2:=AS hre
 clear hre hgot
 simp only
 go_cut [7,8,9] (fun v7 v8 v9 wx=>v7=V I p0/\v8=aA p1/\v9=aA p2/\GX (HomeK c h b_ bm bq) 2 K w [(g+1,(O #[V I d0,V I d1,V I d2] 74:Obj)),(g,(O #[V I k,V I f,V I t,V I b,V I qq,V I wh,aA wr,V I c0,aA oo,aA hh,V I dd] 47:Obj))] wx)
 case first =>
  go_region_held3 (fun x=>x.cell? ⟨b_,8,U⟩=M (V I c.policy)/\x.cell? ⟨b_,9,U⟩=M (bA (M ⟨bm,0,U⟩))/\x.cell? ⟨g,3,U⟩=M (V I b)/\x.cell? ⟨g,6,U⟩=M (aA wr)/\x.cell? ⟨g+1,0,U⟩=M (V I d0)/\x.cell? ⟨g+1,1,U⟩=M (V I d1)/\x.cell? ⟨g+1,2,U⟩=M (V I d2)) (((try dsimp only);(first | (apply KEEP.out;(focus (first | (with_reducible apply N5.out) | (with_reducible apply N4.out) | (with_reducible apply N1.out) | (with_reducible apply (GX.drew (nB _ _ _ _ _) N1.out))));(all_goals simp))))) ((first | (go_at_call 122;refine(GET.out _ (iA (fA _ _))).mono ?_;rintro e w4 ⟨rfl,hb4⟩;have N4:=AS (GX.below (nB _ _ _ _ _) N1.out ((iA (fA _ _)).trans (hb4.mono (pA _))));clear hb4) | (go_at_call 121;refine(reply_any _ _ _ _ _ _ _ _ _ _).mono ?_;rintro e w5 ⟨rfl,hb5⟩;rw[HRE2.out];simp only[repV];have N5:=AS (GX.below (nB _ _ _ _ _) N4.out hb5);clear hb5)))
  all_goals
   go_wp2_with fail
   go_meet
   exact⟨rfl,rfl,rfl,N5.out⟩
 case rest =>
  obtain⟨rfl,rfl,rfl,hcut⟩:=hcut
  have N2:=AS hcut
  clear hcut KEEP GET N1 HRE2 e0_ e1_ e2_ e3_ e4_ e5_ e6_
  have TK:=AS ((GX.drew (nB _ _ _ _ _) N2.out).call (fun K1 hh=>hh.take b p0 p1 p2))
  generalize h.memTake b p0 p1 p2=tk at *
  obtain⟨th,t0,t1,t2,t3⟩:=tk
  simp only[bunV] at TK
  (try simp only)
  have TO:=AS (show ∀ bx W',GX (HomeK c th b_ bm bq) 2 K w bx W'->bB dA 119 #[bA (M ⟨b_,0,U⟩),V I f,V I b,.agg #[V I t0,aA t1,aA t2,V I t3]] W' (NewRow letE (Home.tokens c f b ⟨t0,t1,t2,t3⟩) W') from fun bx W' hx=>homeTokens_any hx.blkH f b ⟨t0,t1,t2,t3⟩)
  generalize Home.tokens c f b ⟨t0,t1,t2,t3⟩=tl at *
  have KEEP:=AS (show ∀ (h':S.Home) (bx:List (Nat×Obj)) x,GX (HomeK c h' b_ bm bq) 2 K w bx x->(g,(O #[V I k,V I f,V I t,V I b,V I qq,V I wh,aA wr,V I c0,aA oo,aA hh,V I dd] 47:Obj))∈bx->(x.cell? ⟨b_,9,U⟩=M (bA (M ⟨bm,0,U⟩))/\x.cell? ⟨g,1,U⟩=M (V I f)/\x.cell? ⟨g,3,U⟩=M (V I b)) from fun h' bx x hx m0=>by
   have h11:=hx.blkH
   have hb0:=hx.at_ m0
   exact⟨cw h11 9,cw hb0 1,cw hb0 3⟩)
  go_upto_region 2 with fail
  have hS_:=KEEP.out _ _ _ N2.out zB
  have e0_:=hS_.1
  have e1_:=hS_.2.1
  have e2_:=hS_.2.2
  clear hS_
  go_region_held3 (fun x=>x.cell? ⟨b_,9,U⟩=M (bA (M ⟨bm,0,U⟩))/\x.cell? ⟨g,1,U⟩=M (V I f)/\x.cell? ⟨g,3,U⟩=M (V I b)) (((try dsimp only);(first | (apply KEEP.out;(focus (first | (with_reducible apply N5.out) | (with_reducible apply N4.out) | (with_reducible apply N2.out) | (with_reducible apply (GX.drew (nB _ _ _ _ _) N2.out))));(all_goals simp))))) ((first | (go_at_call 123;refine TK.out.mono ?_;rintro e w4 ⟨rfl,h4⟩;have N4:=AS h4;clear h4) | (go_at_call 119;refine(TO.out _ _ N4.out).mono ?_;rintro e w5 ⟨v,rfl,hO,hf,hb⟩;have N5:=AS (GX.below (nB _ _ _ _ _) N4.out hb);have F5:=AS (HRet.new N4.out hb hO hf);clear hO hb hf)))
  all_goals
   go_wp2
   go_ret
   exact F5.out
theorem homeCome_any {c:Cfg} {h:S.Home} {b_ bm bq:Nat} {K:Nat->Nat} {w:cA} (hH:HomeK c h b_ bm bq K w) (l:Let) (d:Drw):bB dA 87 #[bA (M ⟨b_,0,U⟩),letV l,drwV d] w (HRet c (match h.queue.current l.block with | some _=>h | none=>h.put l.block l.bun) (match h.queue.current l.block with | some a=>Home.tokens c a.node l.block l.bun | none=>[]) b_ bm bq K w):=by
 obtain⟨k,f,t,b,qq,wh,wr,⟨c0,oo,hh,dd⟩⟩:=l
 obtain⟨d0,d1,d2⟩:=d
 have N1:=AS (GX.box (nB _ _ _ _ _) (GX.box (nB _ _ _ _ _) (GX.refl (m:=2) hH) (O #[V I k,V I f,V I t,V I b,V I qq,V I wh,aA wr,V I c0,aA oo,aA hh,V I dd] 47)) (O #[V I d0,V I d1,V I d2] 74))
 rw[show(w.alloc (O #[V I k,V I f,V I t,V I b,V I qq,V I wh,aA wr,V I c0,aA oo,aA hh,V I dd] 47)).heap.size=w.heap.size+1 by simp] at N1
 show bB dA 87 #[bA (M ⟨b_,0,U⟩),.agg #[V I k,V I f,V I t,V I b,V I qq,V I wh,aA wr,V I c0,aA oo,aA hh,V I dd],.agg #[V I d0,V I d1,V I d2]] w (HRet c (match h.queue.current b with | some _=>h | none=>h.put b ⟨c0,oo,hh,dd⟩) (match h.queue.current b with | some a=>Home.tokens c a.node b ⟨c0,oo,hh,dd⟩ | none=>[]) b_ bm bq K w)
 obtain⟨R1,hR1⟩:∃ R1,R1=(match h.queue.current b with | some _=>h | none=>h.put b ⟨c0,oo,hh,dd⟩):=⟨_,rfl⟩
 obtain⟨R2,hR2⟩:∃ R2,R2=(match h.queue.current b with | some a=>Home.tokens c a.node b ⟨c0,oo,hh,dd⟩ | none=>[]):=⟨_,rfl⟩
 rw[<- hR1,<- hR2]
 have HR:=AS (qA hR1 hR2)
 clear hR1 hR2
 clear hH
 go_enter Tryz.func87,Tryz.ntmps87
 go_upto_region 1 with fail
 generalize ((w.alloc (O #[V I k,V I f,V I t,V I b,V I qq,V I wh,aA wr,V I c0,aA oo,aA hh,V I dd] 47)).alloc (O #[V I d0,V I d1,V I d2] 74))=W at N1 ⊢
 generalize hg:w.heap.size=g at *
 have KEEP:=AS (show ∀ (h':S.Home) (bx:List (Nat×Obj)) x,GX (HomeK c h' b_ bm bq) 2 K w bx x->(g,(O #[V I k,V I f,V I t,V I b,V I qq,V I wh,aA wr,V I c0,aA oo,aA hh,V I dd] 47:Obj))∈bx->(x.cell? ⟨b_,10,U⟩=M (bA (M ⟨bq,0,U⟩))/\x.cell? ⟨g,3,U⟩=M (V I b)) from fun h' bx x hx m0=>by
  have h11:=hx.blkH
  have hb0:=hx.at_ m0
  exact⟨cw h11 10,cw hb0 3⟩)
 have hS_:=KEEP.out _ _ _ N1.out zB
 have e0_:=hS_.1
 have e1_:=hS_.2
 clear hS_
 have CUR:=AS (show ∀ W',Below W.heap.size W W'->bB dA 118 #[bA (M ⟨bq,0,U⟩),V I b] W' (RV (actO (h.queue.current b)) W') from fun W' hb=>(GX.below (nB _ _ _ _ _) N1.out hb).have_ fun K1 hh=>arbCurrent_any hh.2.2.2 b)
 generalize h.queue.current b=cu at *
 have HCU:=AS (show actO cu=.tuple #[actV (cu.getD act0),aA cu.isSome] from rfl)
 rw[HCU.out] at CUR
 generalize hca:cu.getD act0=ca at *
 generalize hcs:cu.isSome=cs at *
 obtain⟨a0,a1,a2⟩:=ca
 simp only[actV] at CUR
 clear HCU
 go_cut [7,8] (fun v7 v8 wx=>∃ a,v7=bA (M ⟨a,0,U⟩)/\v8=aA cs/\GX (HomeK c h b_ bm bq) 2 K w ((a,(O #[V I a0,V I a1,V I a2] 55:Obj)) :: [(g+1,(O #[V I d0,V I d1,V I d2] 74:Obj)),(g,(O #[V I k,V I f,V I t,V I b,V I qq,V I wh,aA wr,V I c0,aA oo,aA hh,V I dd] 47:Obj))]) wx)
 case first =>
  go_region_held3 (fun x=>x.cell? ⟨b_,10,U⟩=M (bA (M ⟨bq,0,U⟩))/\x.cell? ⟨g,3,U⟩=M (V I b)) (((try dsimp only);(apply KEEP.out;(focus (first | (with_reducible apply N4.out) | (with_reducible apply N1.out) | (with_reducible apply (GX.drew (nB _ _ _ _ _) N1.out)) | (refine GX.below (nB _ _ _ _ _) N4.out ?_;(repeat (first | with_reducible exact fA _ _ | with_reducible apply eA | with_reducible apply iA | refine oA ?_ (by dsimp only;omega) _));done) | (refine GX.below (nB _ _ _ _ _) N1.out ?_;(repeat (first | with_reducible exact fA _ _ | with_reducible apply eA | with_reducible apply iA | refine oA ?_ (by dsimp only;omega) _));done) | (refine GX.pass (nB _ _ _ _ _) N4.out ?_;(repeat (with_reducible first | exact qB _ _ | apply sB | apply tB));done)));(all_goals simp)))) ((first | (go_at_call 118;refine(CUR.out W.drew (iA (fA _ _))).mono ?_;rintro e w4 ⟨rfl,hb⟩;have N4:=AS (show GX (HomeK c h b_ bm bq) 2 K w [(g+1,(O #[V I d0,V I d1,V I d2] 74:Obj)),(g,(O #[V I k,V I f,V I t,V I b,V I qq,V I wh,aA wr,V I c0,aA oo,aA hh,V I dd] 47:Obj))] w4 from GX.below (nB _ _ _ _ _) N1.out ((iA (fA _ _)).trans (hb.mono (pA _))));clear hb;have Z:=AS (show(w4.alloc (O #[V I 0,V I 0,V I 0] 55)).heap[w4.heap.size]?=M (O #[V I 0,V I 0,V I 0] 55) from nA w4 _);have z0:(w4.alloc (O #[V I 0,V I 0,V I 0] 55)).cell? ⟨w4.heap.size,0,U⟩=M (V I 0):=cw Z.out 0;have zz0:(w4.alloc (O #[V I 0,V I 0,V I 0] 55)).frozen? ⟨w4.heap.size,0,U⟩=false:=jA Z.out 0;have z1:(w4.alloc (O #[V I 0,V I 0,V I 0] 55)).cell? ⟨w4.heap.size,1,U⟩=M (V I 0):=cw Z.out 1;have zz1:(w4.alloc (O #[V I 0,V I 0,V I 0] 55)).frozen? ⟨w4.heap.size,1,U⟩=false:=jA Z.out 1;have z2:(w4.alloc (O #[V I 0,V I 0,V I 0] 55)).cell? ⟨w4.heap.size,2,U⟩=M (V I 0):=cw Z.out 2;have zz2:(w4.alloc (O #[V I 0,V I 0,V I 0] 55)).frozen? ⟨w4.heap.size,2,U⟩=false:=jA Z.out 2) | (go_at_call 118;refine(CUR.out (W.drew.alloc (O #[V I 0,V I 0,V I 0] 55)) (eA (iA (fA _ _)) _)).mono ?_;rintro e w4 ⟨rfl,hb⟩;have N4:=AS (show GX (HomeK c h b_ bm bq) 2 K w ((W.heap.size,(O #[V I 0,V I 0,V I 0] 55:Obj)) :: [(g+1,(O #[V I d0,V I d1,V I d2] 74:Obj)),(g,(O #[V I k,V I f,V I t,V I b,V I qq,V I wh,aA wr,V I c0,aA oo,aA hh,V I dd] 47:Obj))]) w4 from GX.below (nB _ _ _ _ _) (GX.box (nB _ _ _ _ _) (GX.drew (nB _ _ _ _ _) N1.out) (O #[V I 0,V I 0,V I 0] 55)) hb);clear hb;have Z:=AS (show w4.heap[W.heap.size]?=M (O #[V I 0,V I 0,V I 0] 55) from N4.out.at_ (wA));have z0:w4.cell? ⟨W.heap.size,0,U⟩=M (V I 0):=cw Z.out 0;have zz0:=jA Z.out 0;have z1:w4.cell? ⟨W.heap.size,1,U⟩=M (V I 0):=cw Z.out 1;have zz1:w4.frozen? ⟨W.heap.size,1,U⟩=false:=jA Z.out 1;have z2:w4.cell? ⟨W.heap.size,2,U⟩=M (V I 0):=cw Z.out 2;have zz2:w4.frozen? ⟨W.heap.size,2,U⟩=false:=jA Z.out 2)))
  all_goals
   go_wp2_with fail
   go_meet
   refine⟨_,rfl,rfl,?_⟩
   first
    | (with_reducible apply GX.put (nB _ _ _ _ _) N4.out;(focus ((repeat (with_reducible first | exact qB _ _ | apply sB | apply tB));done));exact(mA (mA (mA Z.out 0 _) 1 _) 2 _).trans zB)
    | (with_reducible apply GX.new (nB _ _ _ _ _) N4.out;(focus ((repeat (first | with_reducible exact fA _ _ | with_reducible apply eA | with_reducible apply iA | refine oA ?_ (by dsimp only;omega) _));done));(focus (exact pA _));exact(mA (mA (mA Z.out 0 _) 1 _) 2 _).trans zB)
    | with_reducible apply GX.box (nB _ _ _ _ _) N4.out
 case rest =>
  obtain⟨a,rfl,rfl,hcut⟩:=hcut
  have N2:=AS hcut
  clear hcut KEEP CUR N1 e0_ e1_
  cases cs
  case true =>
   obtain rfl:cu=M ⟨a0,a1,a2⟩:=by cases cu with | none=>simp at hcs | some x=>simp at hca;rw[hca]
   (try simp only)
   have k1:=cw (N2.out.at_ (g:=a) (ob:=O #[V I a0,V I a1,V I a2] 55) zB) 1 (v:=V I a1)
   have l3:=cw (N2.out.at_ (g:=g) (ob:=O #[V I k,V I f,V I t,V I b,V I qq,V I wh,aA wr,V I c0,aA oo,aA hh,V I dd] 47) zB) 3 (v:=V I b)
   have l7:=cw (N2.out.at_ (g:=g) (ob:=O #[V I k,V I f,V I t,V I b,V I qq,V I wh,aA wr,V I c0,aA oo,aA hh,V I dd] 47) zB) 7 (v:=V I c0)
   have l8:=cw (N2.out.at_ (g:=g) (ob:=O #[V I k,V I f,V I t,V I b,V I qq,V I wh,aA wr,V I c0,aA oo,aA hh,V I dd] 47) zB) 8 (v:=aA oo)
   have l9:=cw (N2.out.at_ (g:=g) (ob:=O #[V I k,V I f,V I t,V I b,V I qq,V I wh,aA wr,V I c0,aA oo,aA hh,V I dd] 47) zB) 9 (v:=aA hh)
   have l10:=cw (N2.out.at_ (g:=g) (ob:=O #[V I k,V I f,V I t,V I b,V I qq,V I wh,aA wr,V I c0,aA oo,aA hh,V I dd] 47) zB) 10 (v:=V I dd)
   have TO:=AS (homeTokens_any N2.out.blkH a1 b ⟨c0,oo,hh,dd⟩)
   simp only[bunV] at TO
   go_wp2_with fail
   refine TO.out.mono ?_
   rintro e w5 ⟨v,rfl,hO,hf,hb⟩
   have F5:=AS (HRet.new N2.out hb hO hf)
   clear hO hf hb
   go_wp2
   go_ret
   rw[HR.out.1,HR.out.2]
   exact F5.out
  case false =>
   obtain rfl:cu=U:=by cases cu with | none=>rfl | some x=>simp at hcs
   (try simp only)
   have PT:=AS ((GX.drew (nB _ _ _ _ _) N2.out).call (fun K1 hx=>hx.mput b ⟨c0,oo,hh,dd⟩))
   simp only[bunV] at PT
   have KEEP:=AS (show ∀ (h':S.Home) (bx:List (Nat×Obj)) x,GX (HomeK c h' b_ bm bq) 2 K w bx x->(g,(O #[V I k,V I f,V I t,V I b,V I qq,V I wh,aA wr,V I c0,aA oo,aA hh,V I dd] 47:Obj))∈bx->(x.cell? ⟨b_,9,U⟩=M (bA (M ⟨bm,0,U⟩))/\x.cell? ⟨g,3,U⟩=M (V I b)/\x.cell? ⟨g,7,U⟩=M (V I c0)/\x.cell? ⟨g,8,U⟩=M (aA oo)/\x.cell? ⟨g,9,U⟩=M (aA hh)/\x.cell? ⟨g,10,U⟩=M (V I dd)) from fun h' bx x hx m0=>by
    have h11:=hx.blkH
    have hb0:=hx.at_ m0
    exact⟨cw h11 9,cw hb0 3,cw hb0 7,cw hb0 8,cw hb0 9,cw hb0 10⟩)
   go_upto_region 4 with fail
   have hS_:=KEEP.out _ _ _ N2.out zB
   have e0_:=hS_.1
   have e1_:=hS_.2.1
   have e2_:=hS_.2.2.1
   have e3_:=hS_.2.2.2.1
   have e4_:=hS_.2.2.2.2.1
   have e5_:=hS_.2.2.2.2.2
   clear hS_
   go_region_held3 (fun x=>x.cell? ⟨b_,9,U⟩=M (bA (M ⟨bm,0,U⟩))/\x.cell? ⟨g,3,U⟩=M (V I b)/\x.cell? ⟨g,7,U⟩=M (V I c0)/\x.cell? ⟨g,8,U⟩=M (aA oo)/\x.cell? ⟨g,9,U⟩=M (aA hh)/\x.cell? ⟨g,10,U⟩=M (V I dd)) (((try dsimp only);(first | (apply KEEP.out;(focus (first | (with_reducible apply N4.out) | (with_reducible apply N2.out) | (with_reducible apply (GX.drew (nB _ _ _ _ _) N2.out))));(all_goals simp))))) ((first | (go_at_call 120;refine PT.out.mono ?_;rintro e w4 ⟨rfl,h4⟩;have N4:=AS h4;clear h4)))
   all_goals
    go_wp2
    go_ret
    rw[HR.out.1,HR.out.2]
    exact HRet.none N4.out
end Go.Proofs.YtiebppkhaiofeaaGreat.K
