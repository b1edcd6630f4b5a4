/- Part of the proof of TopPolicies: what functions of the program do. -/
import Derived.Test.YtiebppkhaiofeaaGreatP12
import Derived.Test.YtiebppkhaiofeaaGreatP00
set_option maxHeartbeats 4000000
set_option maxRecDepth 100000
set_option linter.unusedVariables false
set_option linter.unusedSimpArgs false
open Go.IntKind renaming i64→I
open Go.Value renaming slice→J, int→V, bool→aA, pointer→bA
open Option renaming some→M, none→U
open Go.Obj renaming cells→O
open Go.ChangeMaps renaming setBlock→aB
open Go renaming Calls→bB, World→cA, bodyPost_ret→yA, wpAny_take→zA
open Go.Proofs.Tryz renaming prog→dA
open Go.Proofs.YtiebppkhaiofeaaGreatW.PrintWords renaming below_alloc→eA, blk_frozen→jA, blk_alloc→lA, blk_set→mA, blk_new→nA
open Go.RowKit.Below renaming refl→fA, drew→iA, setCell→oA
open Go.AllReady renaming cons→mB
open Nat renaming le_refl→pA
open And renaming intro→qA
open Go.Proofs.YtiebppkhaiofeaaGreat.K.KS renaming refl→qB, drew→sB, set1→tB
open List renaming mem_cons_self→wA
namespace Go.Proofs.YtiebppkhaiofeaaGreat.K
open Go.RowKit Go.Proofs.YtiebppkhaiofeaaGreatW.PrintWords Go.Proofs.YtiebppkhaiofeaaGreat.S
attribute [local go_sem] World.cell?_alloc_some
open Go.ChangeMaps Go.MapKept
theorem nodeAsks_any {c:Cfg} {n:S.Node} {o:S.Out} {p:NPtr} {K:Nat->Nat} {w:cA} (hN:NO c n o p K w) (hl:o.letters.length≤1000000) (l:Let) (d:Drw):bB dA 93 #[bA (M ⟨p.b,0,U⟩),letV l,drwV d,bA (M ⟨p.q,0,U⟩)] w (NOP (.tuple #[]) c (n.asks c l d o).1 (n.asks c l d o).2 p K w):=by
 obtain⟨k,f,t,b,qq,wh,wr,⟨c0,oo,hh,dd⟩⟩:=l
 obtain⟨d0,d1,d2⟩:=d
 have HL:=AS (qA hl hl)
 have CE:=AS (show ∀ (n':S.Node) (W':cA),n'.id=n.id->W'.heap[p.b]?=M (O (nodeC c n' p) 133 (0,0))->(W'.cell? ⟨p.b,0,U⟩=M (V I c.nodes)/\W'.cell? ⟨p.b,1,U⟩=M (V I c.blocks)/\W'.cell? ⟨p.b,2,U⟩=M (V I c.tokens)/\W'.cell? ⟨p.b,3,U⟩=M (V I c.sets)/\W'.cell? ⟨p.b,4,U⟩=M (V I c.ways)/\W'.cell? ⟨p.b,5,U⟩=M (V I c.cap)/\W'.cell? ⟨p.b,6,U⟩=M (V I c.wait)/\W'.cell? ⟨p.b,7,U⟩=M (V I c.tries)/\W'.cell? ⟨p.b,8,U⟩=M (V I c.policy)/\W'.cell? ⟨p.b,9,U⟩=M (V I n.id)/\W'.cell? ⟨p.b,10,U⟩=M (bA (M ⟨p.bc,0,U⟩))/\W'.cell? ⟨p.b,11,U⟩=M (bA (M ⟨p.bt,0,U⟩))/\W'.cell? ⟨p.b,12,U⟩=M (bA (M ⟨p.bp,0,U⟩))/\W'.cell? ⟨p.b,13,U⟩=M (.map (M p.ba))/\W'.cell? ⟨p.b,14,U⟩=M (.map (M p.bo))) from fun n' W' hi h=>⟨cw h 0,cw h 1,cw h 2,cw h 3,cw h 4,cw h 5,cw h 6,cw h 7,cw h 8,by rw[<- hi];exact(cw h 9),cw h 10,cw h 11,cw h 12,cw h 13,cw h 14⟩)
 have N1:=AS (((NS.refl hN).nx.box (O #[V I k,V I f,V I t,V I b,V I qq,V I wh,aA wr,V I c0,aA oo,aA hh,V I dd] 47)).box (O #[V I d0,V I d1,V I d2] 74))
 rw[show(w.alloc (O #[V I k,V I f,V I t,V I b,V I qq,V I wh,aA wr,V I c0,aA oo,aA hh,V I dd] 47)).heap.size=w.heap.size+1 by simp] at N1
 show bB dA 93 #[bA (M ⟨p.b,0,U⟩),.agg #[V I k,V I f,V I t,V I b,V I qq,V I wh,aA wr,V I c0,aA oo,aA hh,V I dd],.agg #[V I d0,V I d1,V I d2],bA (M ⟨p.q,0,U⟩)] w (NOP (.tuple #[]) c (n.asks c ⟨k,f,t,b,qq,wh,wr,⟨c0,oo,hh,dd⟩⟩ ⟨d0,d1,d2⟩ o).1 (n.asks c ⟨k,f,t,b,qq,wh,wr,⟨c0,oo,hh,dd⟩⟩ ⟨d0,d1,d2⟩ o).2 p K w)
 have HR:=AS (show n.asks c ⟨k,f,t,b,qq,wh,wr,⟨c0,oo,hh,dd⟩⟩ ⟨d0,d1,d2⟩ o=if (n.own b).isSome=true/\n.cpu.pinned=b then (n,o) else ({ n with lines:=(n.lines.take c b (reply c.policy (n.lines.tok b) wr ⟨d0,d1,d2⟩).1 (reply c.policy (n.lines.tok b) wr ⟨d0,d1,d2⟩).2.1 (reply c.policy (n.lines.tok b) wr ⟨d0,d1,d2⟩).2.2).1 },if (n.lines.take c b (reply c.policy (n.lines.tok b) wr ⟨d0,d1,d2⟩).1 (reply c.policy (n.lines.tok b) wr ⟨d0,d1,d2⟩).2.1 (reply c.policy (n.lines.tok b) wr ⟨d0,d1,d2⟩).2.2).2.count > 0 then o.send (tokensL n.id f b (n.lines.take c b (reply c.policy (n.lines.tok b) wr ⟨d0,d1,d2⟩).1 (reply c.policy (n.lines.tok b) wr ⟨d0,d1,d2⟩).2.1 (reply c.policy (n.lines.tok b) wr ⟨d0,d1,d2⟩).2.2).2) else o) from rfl)
 generalize n.asks c ⟨k,f,t,b,qq,wh,wr,⟨c0,oo,hh,dd⟩⟩ ⟨d0,d1,d2⟩ o=R at *
 clear hN hl
 generalize hpb:p.b=pb at *
 go_enter Tryz.func93,Tryz.ntmps93
 go_upto_region 1 with fail
 generalize ((w.alloc (O #[V I k,V I f,V I t,V I b,V I qq,V I wh,aA wr,V I c0,aA oo,aA hh,V I dd] 47)).alloc (O #[V I d0,V I d1,V I d2] 74))=W at N1 ⊢
 generalize hg:w.heap.size=g at *
 have K0:=AS (show ∀ (n':S.Node) (o':S.Out) (bx:List (Nat×Obj)) x,NX c n' o' p K w bx x->n'.id=n.id->(g,(O #[V I k,V I f,V I t,V I b,V I qq,V I wh,aA wr,V I c0,aA oo,aA hh,V I dd] 47:Obj))∈bx->(x.cell? ⟨g,3,U⟩=M (V I b)) from fun n' o' bx x hx hid m0=>by
  have hb0:=hx.at_ m0
  exact(cw hb0 3))
 have hS_:=K0.out _ _ _ _ N1.out rfl zB
 have e0_:=hS_
 clear hS_
 go_wp2_with fail
 have OT:=AS (show bB dA 133 #[bA (M ⟨pb,0,U⟩),V I b] W (RV (.tuple #[actV (Table.actOf n.know b),aA (n.own b).isSome]) W) from by obtain⟨K1,-,h,-⟩:=N1.out;have:=nodeOwn_any h.1 b;rw[hpb] at this;exact this)
 generalize (n.own b).isSome=ok at *
 generalize Table.actOf n.know b=act at *
 obtain⟨a0,a1,a2⟩:=act
 simp only[actV] at OT
 refine OT.out.mono ?_
 rintro e w1 ⟨rfl,hb2⟩
 have N2':=AS (N1.out.below hb2)
 clear hb2 OT N1 e0_ K0
 go_upto_region 2 with fail
 have N2:=AS (N2'.out.below (eA (fA _ _) (O #[V I a0,V I a1,V I a2] 55)))
 clear N2'
 generalize w1.alloc (O #[V I a0,V I a1,V I a2] 55)=w2 at N2 ⊢
 have KEEP:=AS (show ∀ (n':S.Node) (o':S.Out) (bx:List (Nat×Obj)) x,NX c n' o' p K w bx x->n'.id=n.id->(g,(O #[V I k,V I f,V I t,V I b,V I qq,V I wh,aA wr,V I c0,aA oo,aA hh,V I dd] 47:Obj))∈bx->(x.cell? ⟨pb,12,U⟩=M (bA (M ⟨p.bp,0,U⟩))/\x.cell? ⟨g,3,U⟩=M (V I b)) from fun n' o' bx x hx hid m0=>by
  have hce:=(show _ from by have h11:=hx.node;rw[hpb] at h11;exact CE.out n' _ hid h11)
  have hb0:=hx.at_ m0
  exact⟨hce.2.2.2.2.2.2.2.2.2.2.2.2.1,cw hb0 3⟩)
 have hS_:=KEEP.out _ _ _ _ N2.out rfl zB
 have e0_:=hS_.1
 have e1_:=hS_.2
 clear hS_
 have PIN:=AS (show ∀ W',Below w2.heap.size w2 W'->bB dA 132 #[bA (M ⟨p.bp,0,U⟩)] W' (RQ (V I n.cpu.pinned) W') from fun W' hb=>(N2.out.below hb).have_ fun K1 h=>pinned_any h.1.2.2.2.2.1)
 generalize n.cpu.pinned=pin at *
 go_cut [31] (fun v31 wx=>v31=aA (ok && decide (pin=b))/\NX c n o p K w [(g+1,(O #[V I d0,V I d1,V I d2] 74:Obj)),(g,(O #[V I k,V I f,V I t,V I b,V I qq,V I wh,aA wr,V I c0,aA oo,aA hh,V I dd] 47:Obj))] wx)
 case first =>
  have DR:=AS (show ok=ok from rfl)
  cases ok
  case false =>
   go_region
   all_goals
    go_wp2_with fail
    go_meet
    exact⟨rfl,N2.out.drew⟩
  case true =>
   go_region_with (go_at_call 132;refine(PIN.out _ (by repeat (first | with_reducible exact fA _ _ | with_reducible apply eA | with_reducible apply iA | refine oA ?_ (by dsimp only;omega) _))).mono ?_;rintro e w3 ⟨rfl,rfl⟩)
   all_goals
    go_wp2_with fail
    go_meet
    exact⟨by first | rfl | (simp[go_sem];done),N2.out.drew⟩
 case rest =>
  obtain⟨rfl,hcut⟩:=hcut
  have N3:=AS hcut
  clear hcut KEEP PIN N2 e0_ e1_
  by_cases hq:ok=true/\pin=b
  case pos =>
   have hr:=HR.out.trans (if_pos hq)
   have hv:(ok && decide (pin=b))=true:=by simp[hq.1,hq.2]
   rw[hv]
   go_wp2
   go_end0
   rw[hr]
   exact NOP.ns rfl N3.out.ns
  case neg =>
   have hr:=HR.out.trans (if_neg hq)
   have hv:(ok && decide (pin=b))=false:=by cases ok <;> simp_all
   rw[hv]
   clear hq hv HR
   have HR:=AS hr
   clear hr
   have GET:=AS (show ∀ W',Below wc.heap.size wc W'->bB dA 134 #[bA (M ⟨p.bc,0,U⟩),V I b] W' (RV (bunV (n.lines.tok b)) W') from fun W' hb=>(N3.out.below hb).have_ fun K1 h=>cacGet_any h.1.2.2.1 b)
   generalize hgot:n.lines.tok b=got at *
   obtain⟨h0,h1,h2,h3⟩:=got
   have HRE:=AS (show reply c.policy ⟨h0,h1,h2,h3⟩ wr ⟨d0,d1,d2⟩=reply c.policy ⟨h0,h1,h2,h3⟩ wr ⟨d0,d1,d2⟩ from rfl)
   generalize hre:reply c.policy ⟨h0,h1,h2,h3⟩ wr ⟨d0,d1,d2⟩=re at *
   obtain⟨r0,r1,r2⟩:=re
   have HRE2:=AS hre
   clear hre HRE hgot
   simp only[bunV] at GET HR
   have KEEP:=AS (show ∀ (n':S.Node) (o':S.Out) (bx:List (Nat×Obj)) x,NX c n' o' p K w bx x->n'.id=n.id->(g,(O #[V I k,V I f,V I t,V I b,V I qq,V I wh,aA wr,V I c0,aA oo,aA hh,V I dd] 47:Obj))∈bx->(g+1,(O #[V I d0,V I d1,V I d2] 74:Obj))∈bx->(x.cell? ⟨pb,8,U⟩=M (V I c.policy)/\x.cell? ⟨pb,10,U⟩=M (bA (M ⟨p.bc,0,U⟩))/\x.cell? ⟨g,3,U⟩=M (V I b)/\x.cell? ⟨g,6,U⟩=M (aA wr)/\x.cell? ⟨g+1,0,U⟩=M (V I d0)/\x.cell? ⟨g+1,1,U⟩=M (V I d1)/\x.cell? ⟨g+1,2,U⟩=M (V I d2)) from fun n' o' bx x hx hid m0 m1=>by
    have hce:=(show _ from by have h11:=hx.node;rw[hpb] at h11;exact CE.out n' _ hid h11)
    have hb0:=hx.at_ m0
    have hb1:=hx.at_ m1
    exact⟨hce.2.2.2.2.2.2.2.2.1,hce.2.2.2.2.2.2.2.2.2.2.1,cw hb0 3,cw hb0 6,cw hb1 0,cw hb1 1,cw hb1 2⟩)
   go_upto_region 3 with fail
   have hS_:=KEEP.out _ _ _ _ N3.out rfl zB zB
   have e0_:=hS_.1
   have e1_:=hS_.2.1
   have e2_:=hS_.2.2.1
   have e3_:=hS_.2.2.2.1
   have e4_:=hS_.2.2.2.2.1
   have e5_:=hS_.2.2.2.2.2.1
   have e6_:=hS_.2.2.2.2.2.2
   clear hS_
   go_cut [10,11,12] (fun v10 v11 v12 wx=>v10=V I r0/\v11=aA r1/\v12=aA r2/\NX c n o p K w [(g+1,(O #[V I d0,V I d1,V I d2] 74:Obj)),(g,(O #[V I k,V I f,V I t,V I b,V I qq,V I wh,aA wr,V I c0,aA oo,aA hh,V I dd] 47:Obj))] wx)
   case first =>
    go_region_held3 (fun x=>x.cell? ⟨pb,8,U⟩=M (V I c.policy)/\x.cell? ⟨pb,10,U⟩=M (bA (M ⟨p.bc,0,U⟩))/\x.cell? ⟨g,3,U⟩=M (V I b)/\x.cell? ⟨g,6,U⟩=M (aA wr)/\x.cell? ⟨g+1,0,U⟩=M (V I d0)/\x.cell? ⟨g+1,1,U⟩=M (V I d1)/\x.cell? ⟨g+1,2,U⟩=M (V I d2)) (((try dsimp only);apply KEEP.out;(focus (with_reducible first | apply N5.out | apply N4.out | apply N3.out | apply N3.out.drew));exact rfl;(all_goals simp))) ((first | (go_at_call 134;refine(GET.out _ (by repeat (first | with_reducible exact fA _ _ | with_reducible apply eA | with_reducible apply iA | refine oA ?_ (by dsimp only;omega) _))).mono ?_;rintro e w4 ⟨rfl,hb4⟩;have N4:=AS (N3.out.below (show Below wc.heap.size wc w4 from(iA (fA _ _)).trans (hb4.mono (pA _))));clear hb4) | (go_at_call 121;refine(reply_any _ _ _ _ _ _ _ _ _ _).mono ?_;rintro e w5 ⟨rfl,hb5⟩;rw[HRE2.out];simp only[repV];have N5:=AS (N4.out.below hb5);clear hb5)))
    all_goals
     go_wp2_with fail
     go_meet
     exact⟨rfl,rfl,rfl,N5.out⟩
   case rest =>
    obtain⟨rfl,rfl,rfl,hcut⟩:=hcut
    have N2:=AS hcut
    clear hcut KEEP GET N3 HRE2 e0_ e1_ e2_ e3_ e4_ e5_ e6_
    rename_i w3_
    have TK:=AS (show ∀ bx W',NX c n o p K w bx W'->_ from fun bx W' h=>h.call (fun K1 h=>h.cacTake b r0 r1 r2))
    generalize n.lines.take c b r0 r1 r2=tk at *
    obtain⟨tl,t0,t1,t2,t3⟩:=tk
    simp only[bunV] at TK HR
    have KEEP:=AS (show ∀ (n':S.Node) (o':S.Out) (bx:List (Nat×Obj)) x,NX c n' o' p K w bx x->n'.id=n.id->(g,(O #[V I k,V I f,V I t,V I b,V I qq,V I wh,aA wr,V I c0,aA oo,aA hh,V I dd] 47:Obj))∈bx->(x.cell? ⟨pb,10,U⟩=M (bA (M ⟨p.bc,0,U⟩))/\x.cell? ⟨g,3,U⟩=M (V I b)) from fun n' o' bx x hx hid m0=>by
     have hce:=(show _ from by have h11:=hx.node;rw[hpb] at h11;exact CE.out n' _ hid h11)
     have hb0:=hx.at_ m0
     exact⟨hce.2.2.2.2.2.2.2.2.2.2.1,cw hb0 3⟩)
    go_upto_region 4 with fail
    have hS_:=KEEP.out _ _ _ _ N2.out rfl zB
    have e0_:=hS_.1
    have e1_:=hS_.2
    clear hS_
    go_cut [13] (fun v13 wx=>∃ a,v13=bA (M ⟨a,0,U⟩)/\NX c { n with lines:=tl } o p K w [(a,(O #[V I t0,aA t1,aA t2,V I t3] 45:Obj)),(g+1,(O #[V I d0,V I d1,V I d2] 74:Obj)),(g,(O #[V I k,V I f,V I t,V I b,V I qq,V I wh,aA wr,V I c0,aA oo,aA hh,V I dd] 47:Obj))] wx)
    case first =>
     go_region_held3 (fun x=>x.cell? ⟨pb,10,U⟩=M (bA (M ⟨p.bc,0,U⟩))/\x.cell? ⟨g,3,U⟩=M (V I b)) (((try dsimp only);apply KEEP.out;(focus (first | with_reducible apply N4.out | with_reducible apply N2.out | with_reducible apply N2.out.drew | (refine NX.below N4.out ?_;(repeat (first | with_reducible exact fA _ _ | with_reducible apply eA | with_reducible apply iA | refine oA ?_ (by dsimp only;omega) _));done) | (refine NX.below N2.out ?_;(repeat (first | with_reducible exact fA _ _ | with_reducible apply eA | with_reducible apply iA | refine oA ?_ (by dsimp only;omega) _));done) | (refine NX.pass N4.out ?_;(repeat (with_reducible first | exact qB _ _ | apply sB | apply tB));done)));exact rfl;(all_goals simp))) ((first | (go_at_call 135;refine(TK.out _ _ N2.out.drew).mono ?_;rintro e w4 ⟨rfl,h4⟩;have N4:=AS h4;clear h4;have Z:=AS (show(w4.alloc (O #[V I 0,aA false,aA false,V I 0] 45)).heap[w4.heap.size]?=M (O #[V I 0,aA false,aA false,V I 0] 45) from nA w4 _);have z0:(w4.alloc (O #[V I 0,aA false,aA false,V I 0] 45)).cell? ⟨w4.heap.size,0,U⟩=M (V I 0):=cw Z.out 0;have zz0:(w4.alloc (O #[V I 0,aA false,aA false,V I 0] 45)).frozen? ⟨w4.heap.size,0,U⟩=false:=jA Z.out 0;have z1:(w4.alloc (O #[V I 0,aA false,aA false,V I 0] 45)).cell? ⟨w4.heap.size,1,U⟩=M (aA false):=cw Z.out 1;have zz1:(w4.alloc (O #[V I 0,aA false,aA false,V I 0] 45)).frozen? ⟨w4.heap.size,1,U⟩=false:=jA Z.out 1;have z2:(w4.alloc (O #[V I 0,aA false,aA false,V I 0] 45)).cell? ⟨w4.heap.size,2,U⟩=M (aA false):=cw Z.out 2;have zz2:(w4.alloc (O #[V I 0,aA false,aA false,V I 0] 45)).frozen? ⟨w4.heap.size,2,U⟩=false:=jA Z.out 2;have z3:(w4.alloc (O #[V I 0,aA false,aA false,V I 0] 45)).cell? ⟨w4.heap.size,3,U⟩=M (V I 0):=cw Z.out 3;have zz3:(w4.alloc (O #[V I 0,aA false,aA false,V I 0] 45)).frozen? ⟨w4.heap.size,3,U⟩=false:=jA Z.out 3) | (go_at_call 135;refine(TK.out _ _ (N2.out.drew.box (O #[V I 0,aA false,aA false,V I 0] 45))).mono ?_;rintro e w4 ⟨rfl,h4⟩;have N4:=AS (show NX c { n with lines:=tl } o p K w ([(wc.heap.size,(O #[V I 0,aA false,aA false,V I 0] 45:Obj)),(g+1,(O #[V I d0,V I d1,V I d2] 74:Obj)),(g,(O #[V I k,V I f,V I t,V I b,V I qq,V I wh,aA wr,V I c0,aA oo,aA hh,V I dd] 47:Obj))]) w4 from h4);clear h4;have Z:=AS (show w4.heap[wc.heap.size]?=M (O #[V I 0,aA false,aA false,V I 0] 45) from N4.out.at_ (wA));have z0:w4.cell? ⟨wc.heap.size,0,U⟩=M (V I 0):=cw Z.out 0;have zz0:=jA Z.out 0;have z1:w4.cell? ⟨wc.heap.size,1,U⟩=M (aA false):=cw Z.out 1;have zz1:w4.frozen? ⟨wc.heap.size,1,U⟩=false:=jA Z.out 1;have z2:w4.cell? ⟨wc.heap.size,2,U⟩=M (aA false):=cw Z.out 2;have zz2:w4.frozen? ⟨wc.heap.size,2,U⟩=false:=jA Z.out 2;have z3:w4.cell? ⟨wc.heap.size,3,U⟩=M (V I 0):=cw Z.out 3;have zz3:w4.frozen? ⟨wc.heap.size,3,U⟩=false:=jA Z.out 3)))
     all_goals
      go_wp2_with fail
      go_meet
      refine⟨_,rfl,?_⟩
      first
       | (with_reducible apply NX.put N4.out;(focus ((repeat (with_reducible first | exact qB _ _ | apply sB | apply tB));done));exact(mA (mA (mA (mA Z.out 0 _) 1 _) 2 _) 3 _).trans zB)
       | (with_reducible apply NX.new N4.out;(focus ((repeat (first | with_reducible exact fA _ _ | with_reducible apply eA | with_reducible apply iA | refine oA ?_ (by dsimp only;omega) _));done));(focus (exact pA _));exact(mA (mA (mA (mA Z.out 0 _) 1 _) 2 _) 3 _).trans zB)
       | with_reducible apply N4.out.box
    case rest =>
     obtain⟨a,rfl,hcut⟩:=hcut
     have N5:=AS hcut
     clear hcut TK KEEP N2 e0_ e1_
     have hr:=HR.out
     by_cases hq:t0 > 0
     case pos =>
      rw[if_pos hq] at hr
      have hq':(0:Int) < t0:=vB
      have z0:=cw (N5.out.at_ (g:=a) (ob:=O #[V I t0,aA t1,aA t2,V I t3] 45) zB) 0 (v:=V I t0)
      have KEEP:=AS (show ∀ (n':S.Node) (o':S.Out) (bx:List (Nat×Obj)) x,NX c n' o' p K w bx x->n'.id=n.id->(g,(O #[V I k,V I f,V I t,V I b,V I qq,V I wh,aA wr,V I c0,aA oo,aA hh,V I dd] 47:Obj))∈bx->(a,(O #[V I t0,aA t1,aA t2,V I t3] 45:Obj))∈bx->(x.cell? ⟨pb,9,U⟩=M (V I n.id)/\x.cell? ⟨g,1,U⟩=M (V I f)/\x.cell? ⟨g,3,U⟩=M (V I b)/\x.cell? ⟨a,0,U⟩=M (V I t0)/\x.cell? ⟨a,1,U⟩=M (aA t1)/\x.cell? ⟨a,2,U⟩=M (aA t2)/\x.cell? ⟨a,3,U⟩=M (V I t3)) from fun n' o' bx x hx hid m0 m1=>by
       have hce:=(show _ from by have h11:=hx.node;rw[hpb] at h11;exact CE.out n' _ hid h11)
       have hb0:=hx.at_ m0
       have hb1:=hx.at_ m1
       exact⟨hce.2.2.2.2.2.2.2.2.2.1,cw hb0 1,cw hb0 3,cw hb1 0,cw hb1 1,cw hb1 2,cw hb1 3⟩)
      go_upto_region 6 with fail
      have hS_:=KEEP.out _ _ _ _ N5.out rfl zB zB
      have e0_:=hS_.1
      have e1_:=hS_.2.1
      have e2_:=hS_.2.2.1
      have e3_:=hS_.2.2.2.1
      have e4_:=hS_.2.2.2.2.1
      have e5_:=hS_.2.2.2.2.2.1
      have e6_:=hS_.2.2.2.2.2.2
      clear hS_
      go_region_held3 (fun x=>x.cell? ⟨pb,9,U⟩=M (V I n.id)/\x.cell? ⟨g,1,U⟩=M (V I f)/\x.cell? ⟨g,3,U⟩=M (V I b)/\x.cell? ⟨a,0,U⟩=M (V I t0)/\x.cell? ⟨a,1,U⟩=M (aA t1)/\x.cell? ⟨a,2,U⟩=M (aA t2)/\x.cell? ⟨a,3,U⟩=M (V I t3)) (((try dsimp only);apply KEEP.out;(focus (with_reducible first | apply N7.out | apply N6.out | apply N5.out | apply N5.out.drew));exact rfl;(all_goals simp))) ((first | (go_at_call 130;refine(tokens_any _ _ _ _ _ _ _ _).mono ?_;rintro e w6 ⟨rfl,hb6⟩;have N6:=AS (N5.out.below (show Below wc.heap.size wc w6 from(iA (fA _ _)).trans (hb6.mono (pA _))));clear hb6;simp only[letV,tokensL]) | (go_at_call 97;refine(N6.out.call (fun K1 h=>h.send (by have:=HL.out.1;omega) ⟨1,n.id,f,b,0,0,false,⟨t0,t1,t2,t3⟩⟩)).mono ?_;rintro e w7 ⟨rfl,h7⟩;have N7:=AS h7;clear h7)))
      go_wp2
      go_end0
      rw[hr]
      exact NOP.ns rfl N7.out.ns
     case neg =>
      rw[if_neg hq] at hr
      have hq':¬ (0:Int) < t0:=vB
      have z0:=cw (N5.out.at_ (g:=a) (ob:=O #[V I t0,aA t1,aA t2,V I t3] 45) zB) 0 (v:=V I t0)
      go_wp2
      go_end0
      (try rw[hr])
      exact NOP.ns rfl N5.out.ns
theorem under198:Tryz.prog.underlying 198=M (.map 3 197):=by kernel_rfl
theorem zero197 (w:cA):(zeroValue 197).run dA w=.ok .nilFunc w:=by kernel_rfl
theorem below_block {n:Nat} {w W:cA} (h:Below n w W) {g:Nat} (hg:n≤g) (o:Obj):Below n w (aB W g o) :=
 ⟨h.os,h.tape,h.output,by simpa [aB] using h.size,fun j hj=>by
  show(W.heap.setIfInBounds g o)[j]?=_
  rw[Array.getElem?_setIfInBounds_ne vB]
  exact h.block j hj⟩
theorem nodeTake_aux {c:Cfg} {n:S.Node} {p:NPtr} {K:Nat->Nat} {w:cA} (hN:NodeK c n p K w) (hpq:p.q=w.heap.size+3) (h6:∀ x,x < w.heap.size->K x≠6) (l:Let) (d:Drw):bB dA 60 #[bA (M ⟨p.b,0,U⟩),letV l,drwV d] w (NRes (fun a b=>.agg #[a,b]) c (n.take c l d).1 (n.take c l d).2 p K w):=by
 obtain⟨d0,d1,d2⟩:=d
 obtain⟨k,f,t,b,qq,wh,wr,⟨c0,oo,hh,dd⟩⟩:=l
 have H6:=AS h6
 have e1:(w.alloc (O #[V I k,V I f,V I t,V I b,V I qq,V I wh,aA wr,V I c0,aA oo,aA hh,V I dd] 47)).heap.size=w.heap.size+1:=by simp
 have e2:((w.alloc (O #[V I k,V I f,V I t,V I b,V I qq,V I wh,aA wr,V I c0,aA oo,aA hh,V I dd] 47)).alloc (O #[V I d0,V I d1,V I d2] 74)).heap.size=w.heap.size+2:=by simp
 have e3:(((w.alloc (O #[V I k,V I f,V I t,V I b,V I qq,V I wh,aA wr,V I c0,aA oo,aA hh,V I dd] 47)).alloc (O #[V I d0,V I d1,V I d2] 74)).alloc (O #[J U 0 0,J U 0 0] 138)).heap.size=w.heap.size+3:=by simp
 have N1:=AS (hN.start (W:=((((w.alloc (O #[V I k,V I f,V I t,V I b,V I qq,V I wh,aA wr,V I c0,aA oo,aA hh,V I dd] 47)).alloc (O #[V I d0,V I d1,V I d2] 74)).alloc (O #[J U 0 0,J U 0 0] 138)).alloc (O #[J U 0 0,J U 0 0] 138))) (q:=w.heap.size+3) (eA (eA (eA (eA (fA _ _) _) _) _) _) vB (by rw[<- e3];exact nA _ _) [(w.heap.size+2,(O #[J U 0 0,J U 0 0] 138:Obj)),(w.heap.size+1,(O #[V I d0,V I d1,V I d2] 74:Obj)),(w.heap.size,(O #[V I k,V I f,V I t,V I b,V I qq,V I wh,aA wr,V I c0,aA oo,aA hh,V I dd] 47:Obj))] (by
  intro x hx
  simp only[List.mem_cons,List.not_mem_nil,or_false] at hx
  rcases hx with rfl | rfl | rfl
  ·exact⟨zB,zB,lA (by rw[<- e2];exact nA _ _) _⟩
  ·exact⟨zB,zB,lA (lA (by rw[<- e1];exact nA _ _) _) _⟩
  ·exact⟨zB,zB,lA (lA (lA (nA _ _) _) _) _⟩) zB)
 rw[show({ p with q:=w.heap.size+3 }:NPtr)=p from by rw[<- hpq]] at N1
 have HR:=AS (show n.take c ⟨k,f,t,b,qq,wh,wr,⟨c0,oo,hh,dd⟩⟩ ⟨d0,d1,d2⟩=if Let.check c ⟨k,f,t,b,qq,wh,wr,⟨c0,oo,hh,dd⟩⟩≠0∨t≠n.id then (n,out0) else if k=1 then n.tokens c ⟨k,f,t,b,qq,wh,wr,⟨c0,oo,hh,dd⟩⟩ out0 else if k=2 then n.asks c ⟨k,f,t,b,qq,wh,wr,⟨c0,oo,hh,dd⟩⟩ ⟨d0,d1,d2⟩ out0 else if k=4 then n.activate c ⟨k,f,t,b,qq,wh,wr,⟨c0,oo,hh,dd⟩⟩ out0 else if k=6 then n.deactivate c ⟨k,f,t,b,qq,wh,wr,⟨c0,oo,hh,dd⟩⟩ out0 else (n,out0) from rfl)
 have CK:=AS (show ∀ W',bB dA 86 _ W' _ from fun W'=>lcheck_any c ⟨k,f,t,b,qq,wh,wr,⟨c0,oo,hh,dd⟩⟩ W')
 simp only[letV,cfgV] at CK
 generalize hck:Let.check c ⟨k,f,t,b,qq,wh,wr,⟨c0,oo,hh,dd⟩⟩=ck at *
 show bB dA 60 #[bA (M ⟨p.b,0,U⟩),.agg #[V I k,V I f,V I t,V I b,V I qq,V I wh,aA wr,V I c0,aA oo,aA hh,V I dd],.agg #[V I d0,V I d1,V I d2]] w (NRes (fun a b=>.agg #[a,b]) c (n.take c ⟨k,f,t,b,qq,wh,wr,⟨c0,oo,hh,dd⟩⟩ ⟨d0,d1,d2⟩).1 (n.take c ⟨k,f,t,b,qq,wh,wr,⟨c0,oo,hh,dd⟩⟩ ⟨d0,d1,d2⟩).2 p K w)
 generalize n.take c ⟨k,f,t,b,qq,wh,wr,⟨c0,oo,hh,dd⟩⟩ ⟨d0,d1,d2⟩=R at *
 clear hN h6 e1 e2 e3
 have CE:=AS (show ∀ (n':S.Node) (W':cA),n'.id=n.id->W'.heap[p.b]?=M (O (nodeC c n' p) 133 (0,0))->(W'.cell? ⟨p.b,0,U⟩=M (V I c.nodes)/\W'.cell? ⟨p.b,1,U⟩=M (V I c.blocks)/\W'.cell? ⟨p.b,2,U⟩=M (V I c.tokens)/\W'.cell? ⟨p.b,3,U⟩=M (V I c.sets)/\W'.cell? ⟨p.b,4,U⟩=M (V I c.ways)/\W'.cell? ⟨p.b,5,U⟩=M (V I c.cap)/\W'.cell? ⟨p.b,6,U⟩=M (V I c.wait)/\W'.cell? ⟨p.b,7,U⟩=M (V I c.tries)/\W'.cell? ⟨p.b,8,U⟩=M (V I c.policy)/\W'.cell? ⟨p.b,9,U⟩=M (V I n.id)/\W'.cell? ⟨p.b,10,U⟩=M (bA (M ⟨p.bc,0,U⟩))/\W'.cell? ⟨p.b,11,U⟩=M (bA (M ⟨p.bt,0,U⟩))/\W'.cell? ⟨p.b,12,U⟩=M (bA (M ⟨p.bp,0,U⟩))/\W'.cell? ⟨p.b,13,U⟩=M (.map (M p.ba))/\W'.cell? ⟨p.b,14,U⟩=M (.map (M p.bo))) from fun n' W' hi h=>⟨cw h 0,cw h 1,cw h 2,cw h 3,cw h 4,cw h 5,cw h 6,cw h 7,cw h 8,by rw[<- hi];exact(cw h 9),cw h 10,cw h 11,cw h 12,cw h 13,cw h 14⟩)
 generalize hpb:p.b=pb at *
 go_enter Tryz.func60,Tryz.ntmps60
 go_upto_region 2 with fail
 generalize ((((w.alloc (O #[V I k,V I f,V I t,V I b,V I qq,V I wh,aA wr,V I c0,aA oo,aA hh,V I dd] 47)).alloc (O #[V I d0,V I d1,V I d2] 74)).alloc (O #[J U 0 0,J U 0 0] 138)).alloc (O #[J U 0 0,J U 0 0] 138))=W at N1 ⊢
 generalize hg:w.heap.size=g at *
 have hmf:∀ (fn:Fn) (first cap:Array Value) (w:cA),(Instr.makeFunc fn first cap).run dA w=.ok (.func fn first cap) w:=fun _ _ _ _=>rfl
 have KEEP:=AS (show ∀ (n':S.Node) (o':S.Out) (bx:List (Nat×Obj)) x,NX c n' o' p K w bx x->n'.id=n.id->(g,(O #[V I k,V I f,V I t,V I b,V I qq,V I wh,aA wr,V I c0,aA oo,aA hh,V I dd] 47:Obj))∈bx->(x.cell? ⟨g,0,U⟩=M (V I k)/\x.cell? ⟨g,1,U⟩=M (V I f)/\x.cell? ⟨g,2,U⟩=M (V I t)/\x.cell? ⟨g,3,U⟩=M (V I b)/\x.cell? ⟨g,4,U⟩=M (V I qq)/\x.cell? ⟨g,5,U⟩=M (V I wh)/\x.cell? ⟨g,6,U⟩=M (aA wr)/\x.cell? ⟨g,7,U⟩=M (V I c0)/\x.cell? ⟨g,8,U⟩=M (aA oo)/\x.cell? ⟨g,9,U⟩=M (aA hh)/\x.cell? ⟨g,10,U⟩=M (V I dd)/\x.cell? ⟨pb,0,U⟩=M (V I c.nodes)/\x.cell? ⟨pb,1,U⟩=M (V I c.blocks)/\x.cell? ⟨pb,2,U⟩=M (V I c.tokens)/\x.cell? ⟨pb,3,U⟩=M (V I c.sets)/\x.cell? ⟨pb,4,U⟩=M (V I c.ways)/\x.cell? ⟨pb,5,U⟩=M (V I c.cap)/\x.cell? ⟨pb,6,U⟩=M (V I c.wait)/\x.cell? ⟨pb,7,U⟩=M (V I c.tries)/\x.cell? ⟨pb,8,U⟩=M (V I c.policy)/\x.cell? ⟨pb,9,U⟩=M (V I n.id)) from fun n' o' bx x hx hid m0=>by
  have hce:=(show _ from by have h11:=hx.node;rw[hpb] at h11;exact CE.out n' _ hid h11)
  have hb0:=hx.at_ m0
  exact⟨cw hb0 0,cw hb0 1,cw hb0 2,cw hb0 3,cw hb0 4,cw hb0 5,cw hb0 6,cw hb0 7,cw hb0 8,cw hb0 9,cw hb0 10,hce.1,hce.2.1,hce.2.2.1,hce.2.2.2.1,hce.2.2.2.2.1,hce.2.2.2.2.2.1,hce.2.2.2.2.2.2.1,hce.2.2.2.2.2.2.2.1,hce.2.2.2.2.2.2.2.2.1,hce.2.2.2.2.2.2.2.2.2.1⟩)
 have hS_:=KEEP.out _ _ _ _ N1.out rfl zB
 have e0_:=hS_.1
 have e1_:=hS_.2.1
 have e2_:=hS_.2.2.1
 have e3_:=hS_.2.2.2.1
 have e4_:=hS_.2.2.2.2.1
 have e5_:=hS_.2.2.2.2.2.1
 have e6_:=hS_.2.2.2.2.2.2.1
 have e7_:=hS_.2.2.2.2.2.2.2.1
 have e8_:=hS_.2.2.2.2.2.2.2.2.1
 have e9_:=hS_.2.2.2.2.2.2.2.2.2.1
 have e10_:=hS_.2.2.2.2.2.2.2.2.2.2.1
 have e11_:=hS_.2.2.2.2.2.2.2.2.2.2.2.1
 have e12_:=hS_.2.2.2.2.2.2.2.2.2.2.2.2.1
 have e13_:=hS_.2.2.2.2.2.2.2.2.2.2.2.2.2.1
 have e14_:=hS_.2.2.2.2.2.2.2.2.2.2.2.2.2.2.1
 have e15_:=hS_.2.2.2.2.2.2.2.2.2.2.2.2.2.2.2.1
 have e16_:=hS_.2.2.2.2.2.2.2.2.2.2.2.2.2.2.2.2.1
 have e17_:=hS_.2.2.2.2.2.2.2.2.2.2.2.2.2.2.2.2.2.1
 have e18_:=hS_.2.2.2.2.2.2.2.2.2.2.2.2.2.2.2.2.2.2.1
 have e19_:=hS_.2.2.2.2.2.2.2.2.2.2.2.2.2.2.2.2.2.2.2.1
 have e20_:=hS_.2.2.2.2.2.2.2.2.2.2.2.2.2.2.2.2.2.2.2.2
 clear hS_
 have CK1:=AS (CK.out W.drew)
 by_cases q1:ck=0
 case neg =>
  have hr:=HR.out.trans (if_pos (.inl q1))
  have hd:(ck == 0)=false:=by simp[q1]
  have hd2:(ck != 0)=true:=by simp[q1]
  have hd3:decide (ck=0)=false:=by simp[q1]
  go_cut [26] (fun v26 wx=>v26=aA true/\NX c n out0 p K w [(g+2,(O #[J U 0 0,J U 0 0] 138:Obj)),(g+1,(O #[V I d0,V I d1,V I d2] 74:Obj)),(g,(O #[V I k,V I f,V I t,V I b,V I qq,V I wh,aA wr,V I c0,aA oo,aA hh,V I dd] 47:Obj))] wx)
  case first =>
   refine wp_region_any xB ?_
   (try (change wpAny _ _ _ _ _ _ _ (World.drew _)))
   refine zA (i:=0) (v:=?_) rfl xB xB xB (fun _ _ _ h=>h) (Or.inl ⟨xB,?_⟩) ?_
   rotate_left
   ·intro w;go_simp;try (with_reducible rfl)
   rotate_left
   refine zA (i:=1) (v:=?_) rfl xB xB xB (fun _ _ _ h=>h) (Or.inl ⟨xB,?_⟩) ?_
   rotate_left
   ·intro w;go_simp;try (with_reducible rfl)
   rotate_left
   refine zA (i:=2) (v:=?_) rfl xB xB xB (fun _ _ _ h=>h) (Or.inl ⟨xB,?_⟩) ?_
   rotate_left
   ·intro w;go_simp;try (with_reducible rfl)
   rotate_left
   refine wpAny_ready (rs:=[3,4]) xB zB ?_
   refine mB rfl (fun K hK=>?_) (mB rfl (fun K hK=>?_) AllReady.nil)
   ·(try go_simp)
    (try (refine hK _ _ ?_;clear hK K))
    refine wpAny_ready (rs:=[4]) xB zB ?_
    refine mB rfl (fun K hK=>?_) AllReady.nil
    (try go_simp)
    (try (refine hK _ _ ?_;clear hK K))
    refine wpAny_ready (rs:=[5]) xB zB ?_
    refine mB rfl (fun K hK=>?_) AllReady.nil
    (try go_simp)
    go_wp2_with (go_at_call 86;refine CK1.out.mono ?_;rintro e w2 ⟨rfl,hb2⟩;have N2:=AS (N1.out.drew.below hb2);clear hb2)
    (try (refine hK _ _ ?_;clear hK K))
    refine zA (i:=6) (v:=?_) rfl xB xB xB (fun _ _ _ h=>h) (Or.inl ⟨xB,?_⟩) ?_
    rotate_left
    ·intro w;go_simp;try (with_reducible rfl)
    rotate_left
    refine zA (i:=7) (v:=?_) rfl xB xB xB (fun _ _ _ h=>h) (Or.inl ⟨xB,?_⟩) ?_
    rotate_left
    ·intro w;go_simp;try (with_reducible rfl)
    rotate_left
    refine zA (i:=8) (v:=undef) rfl xB xB xB (fun _ _ _ h=>h) (Or.inr ⟨xB,rfl⟩) ?_
    refine zA (i:=9) (v:=undef) rfl xB xB xB (fun _ _ _ h=>h) (Or.inr ⟨xB,rfl⟩) ?_
    refine zA (i:=10) (v:=undef) rfl xB xB xB (fun _ _ _ h=>h) (Or.inr ⟨xB,rfl⟩) ?_
    refine zA (i:=11) (v:=undef) rfl xB xB xB (fun _ _ _ h=>h) (Or.inr ⟨xB,rfl⟩) ?_
    refine zA (i:=12) (v:=undef) rfl xB xB xB (fun _ _ _ h=>h) (Or.inr ⟨xB,rfl⟩) ?_
    refine zA (i:=13) (v:=undef) rfl xB xB xB (fun _ _ _ h=>h) (Or.inr ⟨xB,rfl⟩) ?_
    refine zA (i:=14) (v:=undef) rfl xB xB xB (fun _ _ _ h=>h) (Or.inr ⟨xB,rfl⟩) ?_
    refine zA (i:=15) (v:=?_) rfl xB xB xB (fun _ _ _ h=>h) (Or.inl ⟨xB,?_⟩) ?_
    rotate_left
    ·intro w;go_simp;try (with_reducible rfl)
    rotate_left
    refine wpAny_done xB ?_ _
    go_simp
    go_wp2_with fail
    go_meet
    exact⟨rfl,N2.out⟩
   ·(try go_simp)
    (try (refine hK _ _ ?_;clear hK K))
    refine wpAny_ready (rs:=[3]) xB zB ?_
    refine mB rfl (fun K hK=>?_) AllReady.nil
    (try go_simp)
    (try (refine hK _ _ ?_;clear hK K))
    refine wpAny_ready (rs:=[5]) xB zB ?_
    refine mB rfl (fun K hK=>?_) AllReady.nil
    (try go_simp)
    go_wp2_with (go_at_call 86;refine CK1.out.mono ?_;rintro e w2 ⟨rfl,hb2⟩;have N2:=AS (N1.out.drew.below hb2);clear hb2)
    (try (refine hK _ _ ?_;clear hK K))
    refine zA (i:=6) (v:=?_) rfl xB xB xB (fun _ _ _ h=>h) (Or.inl ⟨xB,?_⟩) ?_
    rotate_left
    ·intro w;go_simp;try (with_reducible rfl)
    rotate_left
    refine zA (i:=7) (v:=?_) rfl xB xB xB (fun _ _ _ h=>h) (Or.inl ⟨xB,?_⟩) ?_
    rotate_left
    ·intro w;go_simp;try (with_reducible rfl)
    rotate_left
    refine zA (i:=8) (v:=undef) rfl xB xB xB (fun _ _ _ h=>h) (Or.inr ⟨xB,rfl⟩) ?_
    refine zA (i:=9) (v:=undef) rfl xB xB xB (fun _ _ _ h=>h) (Or.inr ⟨xB,rfl⟩) ?_
    refine zA (i:=10) (v:=undef) rfl xB xB xB (fun _ _ _ h=>h) (Or.inr ⟨xB,rfl⟩) ?_
    refine zA (i:=11) (v:=undef) rfl xB xB xB (fun _ _ _ h=>h) (Or.inr ⟨xB,rfl⟩) ?_
    refine zA (i:=12) (v:=undef) rfl xB xB xB (fun _ _ _ h=>h) (Or.inr ⟨xB,rfl⟩) ?_
    refine zA (i:=13) (v:=undef) rfl xB xB xB (fun _ _ _ h=>h) (Or.inr ⟨xB,rfl⟩) ?_
    refine zA (i:=14) (v:=undef) rfl xB xB xB (fun _ _ _ h=>h) (Or.inr ⟨xB,rfl⟩) ?_
    refine zA (i:=15) (v:=?_) rfl xB xB xB (fun _ _ _ h=>h) (Or.inl ⟨xB,?_⟩) ?_
    rotate_left
    ·intro w;go_simp;try (with_reducible rfl)
    rotate_left
    refine wpAny_done xB ?_ _
    go_simp
    go_wp2_with fail
    go_meet
    exact⟨rfl,N2.out⟩
  case rest =>
   obtain⟨rfl,hcut⟩:=hcut
   have N2:=AS hcut
   clear hcut KEEP N1 e0_ e1_ e2_ e3_ e4_ e5_ e6_ e7_ e8_ e9_ e10_ e11_ e12_ e13_ e14_ e15_ e16_ e17_ e18_ e19_ e20_
   obtain⟨A1,n1,c1,A2,n2,c2,hq_⟩:=N2.out.outs
   have HQ:=AS hq_
   have HQ2:=AS (show wc.heap[g+3]?=M (O #[J A1 n1 c1,J A2 n2 c2] 138 (0,0)) from by rw[<- hpq];exact hq_)
   have q0_:=cw HQ2.out 0 (v:=J A1 n1 c1)
   have q1_:=cw HQ2.out 1 (v:=J A2 n2 c2)
   have RB:=AS (N2.out.at_ (g:=g+2) (ob:=O #[J U 0 0,J U 0 0] 138) zB)
   have r0_:=cw RB.out 0 (v:=J U 0 0)
   have r1_:=cw RB.out 1 (v:=J U 0 0)
   have rz0_:=jA RB.out 0
   have rz1_:=jA RB.out 1
   clear hq_
   go_wp2
   refine yA (v:=.agg #[J A1 n1 c1,J A2 n2 c2]) (by simp[results,Tryz.results60,go_sem,r0_,r1_]) rfl ?_
   (try rw[hr])
   exact NX.fin (v:=fun a b=>.agg #[a,b]) (r:=g+2) (ob:=O #[J U 0 0,J U 0 0] 138) N2.out zB (fun x hx=>H6.out x (by rw[<- hg];exact hx)) HQ.out (by repeat (with_reducible first | exact qB _ _ | apply sB | apply tB))
 case pos =>
  have hd9:(ck != 0)=false:=by simp[q1]
  have hv:decide (t≠n.id) = !decide (t=n.id):=by simp
  go_cut [26] (fun v26 wx=>v26=aA (!decide (t=n.id))/\NX c n out0 p K w [(g+2,(O #[J U 0 0,J U 0 0] 138:Obj)),(g+1,(O #[V I d0,V I d1,V I d2] 74:Obj)),(g,(O #[V I k,V I f,V I t,V I b,V I qq,V I wh,aA wr,V I c0,aA oo,aA hh,V I dd] 47:Obj))] wx)
  case first =>
   refine wp_region_any xB ?_
   (try (change wpAny _ _ _ _ _ _ _ (World.drew _)))
   refine zA (i:=0) (v:=?_) rfl xB xB xB (fun _ _ _ h=>h) (Or.inl ⟨xB,?_⟩) ?_
   rotate_left
   ·intro w;go_simp;try (with_reducible rfl)
   rotate_left
   refine zA (i:=1) (v:=?_) rfl xB xB xB (fun _ _ _ h=>h) (Or.inl ⟨xB,?_⟩) ?_
   rotate_left
   ·intro w;go_simp;try (with_reducible rfl)
   rotate_left
   refine zA (i:=2) (v:=?_) rfl xB xB xB (fun _ _ _ h=>h) (Or.inl ⟨xB,?_⟩) ?_
   rotate_left
   ·intro w;go_simp;try (with_reducible rfl)
   rotate_left
   refine wpAny_ready (rs:=[3,4]) xB zB ?_
   refine mB rfl (fun K hK=>?_) (mB rfl (fun K hK=>?_) AllReady.nil)
   ·(try go_simp)
    (try (refine hK _ _ ?_;clear hK K))
    refine wpAny_ready (rs:=[4]) xB zB ?_
    refine mB rfl (fun K hK=>?_) AllReady.nil
    (try go_simp)
    (try (refine hK _ _ ?_;clear hK K))
    refine wpAny_ready (rs:=[5]) xB zB ?_
    refine mB rfl (fun K hK=>?_) AllReady.nil
    (try go_simp)
    go_wp2_with (go_at_call 86;refine CK1.out.mono ?_;rintro e w2 ⟨rfl,hb2⟩;have N2:=AS (N1.out.drew.below hb2);clear hb2)
    (try (refine hK _ _ ?_;clear hK K))
    have l2_:=cw (N2.out.at_ (g:=g) (ob:=O #[V I k,V I f,V I t,V I b,V I qq,V I wh,aA wr,V I c0,aA oo,aA hh,V I dd] 47) zB) 2 (v:=V I t)
    have nid_:=(show w2.cell? ⟨pb,9,U⟩=M (V I n.id) from by have h11:=N2.out.node;rw[hpb] at h11;exact(CE.out n _ rfl h11).2.2.2.2.2.2.2.2.2.1)
    refine zA (i:=6) (v:=?_) rfl xB xB xB (fun _ _ _ h=>h) (Or.inl ⟨xB,?_⟩) ?_
    rotate_left
    ·intro w;go_simp;try (with_reducible rfl)
    rotate_left
    refine zA (i:=7) (v:=?_) rfl xB xB xB (fun _ _ _ h=>h) (Or.inl ⟨xB,?_⟩) ?_
    rotate_left
    ·intro w;go_simp;try (with_reducible rfl)
    rotate_left
    refine zA (i:=8) (v:=?_) rfl xB xB xB (fun _ _ _ h=>h) (Or.inl ⟨xB,?_⟩) ?_
    rotate_left
    ·intro w;go_simp;try (with_reducible rfl)
    rotate_left
    refine zA (i:=10) (v:=?_) rfl xB xB xB (fun _ _ _ h=>h) (Or.inl ⟨xB,?_⟩) ?_
    rotate_left
    ·intro w;go_simp;try (with_reducible rfl)
    rotate_left
    refine zA (i:=11) (v:=?_) rfl xB xB xB (fun _ _ _ h=>h) (Or.inl ⟨xB,?_⟩) ?_
    rotate_left
    ·intro w;go_simp;try (with_reducible rfl)
    rotate_left
    refine zA (i:=12) (v:=?_) rfl xB xB xB (fun _ _ _ h=>h) (Or.inl ⟨xB,?_⟩) ?_
    rotate_left
    ·intro w;go_simp;try (with_reducible rfl)
    rotate_left
    refine wpAny_ready (rs:=[9,13]) xB zB ?_
    refine mB rfl (fun K hK=>?_) (mB rfl (fun K hK=>?_) AllReady.nil)
    ·(try go_simp)
     (try (refine hK _ _ ?_;clear hK K))
     refine wpAny_ready (rs:=[13]) xB zB ?_
     refine mB rfl (fun K hK=>?_) AllReady.nil
     (try go_simp)
     (try (refine hK _ _ ?_;clear hK K))
     refine zA (i:=14) (v:=?_) rfl xB xB xB (fun _ _ _ h=>h) (Or.inl ⟨xB,?_⟩) ?_
     rotate_left
     ·intro w;go_simp;try (with_reducible rfl)
     rotate_left
     refine zA (i:=15) (v:=?_) rfl xB xB xB (fun _ _ _ h=>h) (Or.inl ⟨xB,?_⟩) ?_
     rotate_left
     ·intro w;go_simp;try (with_reducible rfl)
     rotate_left
     refine wpAny_done xB ?_ _
     go_simp
     go_wp2_with fail
     go_meet
     refine⟨?_,N2.out⟩
     first
      | rfl
      | simp[go_sem]
    ·(try go_simp)
     (try (refine hK _ _ ?_;clear hK K))
     refine wpAny_ready (rs:=[9]) xB zB ?_
     refine mB rfl (fun K hK=>?_) AllReady.nil
     (try go_simp)
     (try (refine hK _ _ ?_;clear hK K))
     refine zA (i:=14) (v:=?_) rfl xB xB xB (fun _ _ _ h=>h) (Or.inl ⟨xB,?_⟩) ?_
     rotate_left
     ·intro w;go_simp;try (with_reducible rfl)
     rotate_left
     refine zA (i:=15) (v:=?_) rfl xB xB xB (fun _ _ _ h=>h) (Or.inl ⟨xB,?_⟩) ?_
     rotate_left
     ·intro w;go_simp;try (with_reducible rfl)
     rotate_left
     refine wpAny_done xB ?_ _
     go_simp
     go_wp2_with fail
     go_meet
     refine⟨?_,N2.out⟩
     first
      | rfl
      | simp[go_sem]
   ·(try go_simp)
    (try (refine hK _ _ ?_;clear hK K))
    refine wpAny_ready (rs:=[3]) xB zB ?_
    refine mB rfl (fun K hK=>?_) AllReady.nil
    (try go_simp)
    (try (refine hK _ _ ?_;clear hK K))
    refine wpAny_ready (rs:=[5]) xB zB ?_
    refine mB rfl (fun K hK=>?_) AllReady.nil
    (try go_simp)
    go_wp2_with (go_at_call 86;refine CK1.out.mono ?_;rintro e w2 ⟨rfl,hb2⟩;have N2:=AS (N1.out.drew.below hb2);clear hb2)
    (try (refine hK _ _ ?_;clear hK K))
    have l2_:=cw (N2.out.at_ (g:=g) (ob:=O #[V I k,V I f,V I t,V I b,V I qq,V I wh,aA wr,V I c0,aA oo,aA hh,V I dd] 47) zB) 2 (v:=V I t)
    have nid_:=(show w2.cell? ⟨pb,9,U⟩=M (V I n.id) from by have h11:=N2.out.node;rw[hpb] at h11;exact(CE.out n _ rfl h11).2.2.2.2.2.2.2.2.2.1)
    refine zA (i:=6) (v:=?_) rfl xB xB xB (fun _ _ _ h=>h) (Or.inl ⟨xB,?_⟩) ?_
    rotate_left
    ·intro w;go_simp;try (with_reducible rfl)
    rotate_left
    refine zA (i:=7) (v:=?_) rfl xB xB xB (fun _ _ _ h=>h) (Or.inl ⟨xB,?_⟩) ?_
    rotate_left
    ·intro w;go_simp;try (with_reducible rfl)
    rotate_left
    refine zA (i:=8) (v:=?_) rfl xB xB xB (fun _ _ _ h=>h) (Or.inl ⟨xB,?_⟩) ?_
    rotate_left
    ·intro w;go_simp;try (with_reducible rfl)
    rotate_left
    refine zA (i:=10) (v:=?_) rfl xB xB xB (fun _ _ _ h=>h) (Or.inl ⟨xB,?_⟩) ?_
    rotate_left
    ·intro w;go_simp;try (with_reducible rfl)
    rotate_left
    refine zA (i:=11) (v:=?_) rfl xB xB xB (fun _ _ _ h=>h) (Or.inl ⟨xB,?_⟩) ?_
    rotate_left
    ·intro w;go_simp;try (with_reducible rfl)
    rotate_left
    refine zA (i:=12) (v:=?_) rfl xB xB xB (fun _ _ _ h=>h) (Or.inl ⟨xB,?_⟩) ?_
    rotate_left
    ·intro w;go_simp;try (with_reducible rfl)
    rotate_left
    refine wpAny_ready (rs:=[9,13]) xB zB ?_
    refine mB rfl (fun K hK=>?_) (mB rfl (fun K hK=>?_) AllReady.nil)
    ·(try go_simp)
     (try (refine hK _ _ ?_;clear hK K))
     refine wpAny_ready (rs:=[13]) xB zB ?_
     refine mB rfl (fun K hK=>?_) AllReady.nil
     (try go_simp)
     (try (refine hK _ _ ?_;clear hK K))
     refine zA (i:=14) (v:=?_) rfl xB xB xB (fun _ _ _ h=>h) (Or.inl ⟨xB,?_⟩) ?_
     rotate_left
     ·intro w;go_simp;try (with_reducible rfl)
     rotate_left
     refine zA (i:=15) (v:=?_) rfl xB xB xB (fun _ _ _ h=>h) (Or.inl ⟨xB,?_⟩) ?_
     rotate_left
     ·intro w;go_simp;try (with_reducible rfl)
     rotate_left
     refine wpAny_done xB ?_ _
     go_simp
     go_wp2_with fail
     go_meet
     refine⟨?_,N2.out⟩
     first
      | rfl
      | simp[go_sem]
    ·(try go_simp)
     (try (refine hK _ _ ?_;clear hK K))
     refine wpAny_ready (rs:=[9]) xB zB ?_
     refine mB rfl (fun K hK=>?_) AllReady.nil
     (try go_simp)
     (try (refine hK _ _ ?_;clear hK K))
     refine zA (i:=14) (v:=?_) rfl xB xB xB (fun _ _ _ h=>h) (Or.inl ⟨xB,?_⟩) ?_
     rotate_left
     ·intro w;go_simp;try (with_reducible rfl)
     rotate_left
     refine zA (i:=15) (v:=?_) rfl xB xB xB (fun _ _ _ h=>h) (Or.inl ⟨xB,?_⟩) ?_
     rotate_left
     ·intro w;go_simp;try (with_reducible rfl)
     rotate_left
     refine wpAny_done xB ?_ _
     go_simp
     go_wp2_with fail
     go_meet
     refine⟨?_,N2.out⟩
     first
      | rfl
      | simp[go_sem]
  case rest =>
   obtain⟨rfl,hcut⟩:=hcut
   have N2:=AS hcut
   clear hcut KEEP N1 e0_ e1_ e2_ e3_ e4_ e5_ e6_ e7_ e8_ e9_ e10_ e11_ e12_ e13_ e14_ e15_ e16_ e17_ e18_ e19_ e20_
   by_cases q2:t=n.id
   case neg =>
    have hr:=HR.out.trans (if_pos (.inr q2))
    have hv2:(!decide (t=n.id))=true:=by simp[q2]
    rw[hv2]
    obtain⟨A1,n1,c1,A2,n2,c2,hq_⟩:=N2.out.outs
    have HQ:=AS hq_
    have HQ2:=AS (show wc.heap[g+3]?=M (O #[J A1 n1 c1,J A2 n2 c2] 138 (0,0)) from by rw[<- hpq];exact hq_)
    have q0_:=cw HQ2.out 0 (v:=J A1 n1 c1)
    have q1_:=cw HQ2.out 1 (v:=J A2 n2 c2)
    have RB:=AS (N2.out.at_ (g:=g+2) (ob:=O #[J U 0 0,J U 0 0] 138) zB)
    have r0_:=cw RB.out 0 (v:=J U 0 0)
    have r1_:=cw RB.out 1 (v:=J U 0 0)
    have rz0_:=jA RB.out 0
    have rz1_:=jA RB.out 1
    clear hq_
    go_wp2
    refine yA (v:=.agg #[J A1 n1 c1,J A2 n2 c2]) (by simp[results,Tryz.results60,go_sem,r0_,r1_]) rfl ?_
    (try rw[hr])
    exact NX.fin (v:=fun a b=>.agg #[a,b]) (r:=g+2) (ob:=O #[J U 0 0,J U 0 0] 138) N2.out zB (fun x hx=>H6.out x (by rw[<- hg];exact hx)) HQ.out (by repeat (with_reducible first | exact qB _ _ | apply sB | apply tB))
   case pos =>
    have hr:=HR.out.trans (if_neg (by simp[q1,q2]))
    have hv2:(!decide (t=n.id))=false:=by simp[q2]
    rw[hv2]
    clear HR
    have HR:=AS hr
    clear hr hv hv2
    have m1:=fun w:cA=>run_makeMap (P:=dA) 198 w
    have hb0:=(heap_alloc wc (.map #[] 0)).1
    obtain⟨s1,k1,hr1,hi1⟩:=IM.empty.put hb0 under198 under3 1 (.func (.func 92) #[bA (M ⟨pb,0,U⟩)] #[])
    have hb1:=set_at hb0 (.map s1 k1)
    obtain⟨s2,k2,hr2,hi2⟩:=hi1.put hb1 under198 under3 2 (.func (.func 93) #[bA (M ⟨pb,0,U⟩)] #[])
    have hb2:=set_at hb1 (.map s2 k2)
    obtain⟨s3,k3,hr3,hi3⟩:=hi2.put hb2 under198 under3 4 (.func (.func 94) #[bA (M ⟨pb,0,U⟩)] #[])
    have hb3:=set_at hb2 (.map s3 k3)
    obtain⟨s4,k4,hr4,hi4⟩:=hi3.put hb3 under198 under3 6 (.func (.func 95) #[bA (M ⟨pb,0,U⟩)] #[])
    have hb4:=set_at hb3 (.map s4 k4)
    have LK:=AS (show ∀ W':cA,W'.heap[wc.heap.size]?=M (.map s4 k4)->_ from fun W' h=>hi4.look2 h under198 under3 (zero197 W') k)
    have N3:=AS (N2.out.below (below_block (below_block (below_block (below_block (eA (fA wc.heap.size wc) (.map #[] 0)) (pA _) (.map s1 k1)) (pA _) (.map s2 k2)) (pA _) (.map s3 k3)) (pA _) (.map s4 k4)))
    have HB:=AS hb4
    clear hb0 hb1 hb2 hb3 hb4 hi1 hi2 hi3 hi4
    go_upto_region 5 with fail
    clear hr1 hr2 hr3 hr4 m1
    generalize aB (aB (aB (aB (wc.alloc (.map #[] 0)) wc.heap.size (.map s1 k1)) wc.heap.size (.map s2 k2)) wc.heap.size (.map s3 k3)) wc.heap.size (.map s4 k4)=W4 at N3 HB ⊢
    have lk:=LK.out W4 HB.out
    clear LK HB N2
    have KEEP:=AS (show ∀ (n':S.Node) (o':S.Out) (bx:List (Nat×Obj)) x,NX c n' o' p K w bx x->n'.id=n.id->(g,(O #[V I k,V I f,V I t,V I b,V I qq,V I wh,aA wr,V I c0,aA oo,aA hh,V I dd] 47:Obj))∈bx->(g+1,(O #[V I d0,V I d1,V I d2] 74:Obj))∈bx->(x.cell? ⟨g,0,U⟩=M (V I k)/\x.cell? ⟨g,1,U⟩=M (V I f)/\x.cell? ⟨g,2,U⟩=M (V I t)/\x.cell? ⟨g,3,U⟩=M (V I b)/\x.cell? ⟨g,4,U⟩=M (V I qq)/\x.cell? ⟨g,5,U⟩=M (V I wh)/\x.cell? ⟨g,6,U⟩=M (aA wr)/\x.cell? ⟨g,7,U⟩=M (V I c0)/\x.cell? ⟨g,8,U⟩=M (aA oo)/\x.cell? ⟨g,9,U⟩=M (aA hh)/\x.cell? ⟨g,10,U⟩=M (V I dd)/\x.cell? ⟨g+1,0,U⟩=M (V I d0)/\x.cell? ⟨g+1,1,U⟩=M (V I d1)/\x.cell? ⟨g+1,2,U⟩=M (V I d2)) from fun n' o' bx x hx hid m0 m1=>by
     have hb0:=hx.at_ m0
     have hb1:=hx.at_ m1
     exact⟨cw hb0 0,cw hb0 1,cw hb0 2,cw hb0 3,cw hb0 4,cw hb0 5,cw hb0 6,cw hb0 7,cw hb0 8,cw hb0 9,cw hb0 10,cw hb1 0,cw hb1 1,cw hb1 2⟩)
    have hS_:=KEEP.out _ _ _ _ N3.out rfl zB zB
    have e0_:=hS_.1
    have e1_:=hS_.2.1
    have e2_:=hS_.2.2.1
    have e3_:=hS_.2.2.2.1
    have e4_:=hS_.2.2.2.2.1
    have e5_:=hS_.2.2.2.2.2.1
    have e6_:=hS_.2.2.2.2.2.2.1
    have e7_:=hS_.2.2.2.2.2.2.2.1
    have e8_:=hS_.2.2.2.2.2.2.2.2.1
    have e9_:=hS_.2.2.2.2.2.2.2.2.2.1
    have e10_:=hS_.2.2.2.2.2.2.2.2.2.2.1
    have e11_:=hS_.2.2.2.2.2.2.2.2.2.2.2.1
    have e12_:=hS_.2.2.2.2.2.2.2.2.2.2.2.2.1
    have e13_:=hS_.2.2.2.2.2.2.2.2.2.2.2.2.2
    clear hS_
    by_cases c1:k=1
    ·have hr:=HR.out.trans (if_pos c1)
     have lk':(Instr.lookup 198 (.map (M wc.heap.size)) (V I k) true).run dA W4=.ok (.tuple #[.func (.func 92) #[bA (M ⟨pb,0,U⟩)] #[],aA true]) W4:=by rw[lk];simp[fput,c1]
     have lk2:=lk'
     rw[c1] at lk2
     have CA:=AS (N3.out.call (fun K1 h=>nodeTokens_any h (by show 0≤_;omega) (by show 0≤_;omega) ⟨1,f,n.id,b,qq,wh,wr,⟨c0,oo,hh,dd⟩⟩ ⟨d0,d1,d2⟩))
     rw[c1,q2] at hr
     rw[hpb,hpq] at CA
     simp only[letV,drwV] at CA
     clear lk
     go_wp2_with fail
     refine CA.out.mono ?_
     rintro e w7 ⟨rfl,h7⟩
     have N7:=AS h7
     clear h7 CA lk'
     obtain⟨A1,n1,c1,A2,n2,c2,hq_⟩:=N7.out.outs
     have HQ:=AS hq_
     have HQ2:=AS (show w7.heap[g+3]?=M (O #[J A1 n1 c1,J A2 n2 c2] 138 (0,0)) from by rw[<- hpq];exact hq_)
     have q0_:=cw HQ2.out 0 (v:=J A1 n1 c1)
     have q1_:=cw HQ2.out 1 (v:=J A2 n2 c2)
     have RB:=AS (N7.out.at_ (g:=g+2) (ob:=O #[J U 0 0,J U 0 0] 138) zB)
     have r0_:=cw RB.out 0 (v:=J U 0 0)
     have r1_:=cw RB.out 1 (v:=J U 0 0)
     have rz0_:=jA RB.out 0
     have rz1_:=jA RB.out 1
     clear hq_
     go_wp2
     refine yA (v:=.agg #[J A1 n1 c1,J A2 n2 c2]) (by simp[results,Tryz.results60,go_sem,r0_,r1_]) rfl ?_
     (try rw[hr])
     exact NX.fin (v:=fun a b=>.agg #[a,b]) (r:=g+2) (ob:=O #[J U 0 0,J U 0 0] 138) N7.out zB (fun x hx=>H6.out x (by rw[<- hg];exact hx)) HQ.out (by repeat (with_reducible first | exact qB _ _ | apply sB | apply tB))
    by_cases c2:k=2
    ·have hr:=(HR.out.trans (if_neg c1)).trans (if_pos c2)
     have lk':(Instr.lookup 198 (.map (M wc.heap.size)) (V I k) true).run dA W4=.ok (.tuple #[.func (.func 93) #[bA (M ⟨pb,0,U⟩)] #[],aA true]) W4:=by rw[lk];simp[fput,c2]
     have lk2:=lk'
     rw[c2] at lk2
     have CA:=AS (N3.out.call (fun K1 h=>nodeAsks_any h (by show 0≤_;omega) ⟨2,f,n.id,b,qq,wh,wr,⟨c0,oo,hh,dd⟩⟩ ⟨d0,d1,d2⟩))
     rw[c2,q2] at hr
     rw[hpb,hpq] at CA
     simp only[letV,drwV] at CA
     clear lk
     go_wp2_with fail
     refine CA.out.mono ?_
     rintro e w7 ⟨rfl,h7⟩
     have N7:=AS h7
     clear h7 CA lk'
     obtain⟨A1,n1,c1,A2,n2,c2,hq_⟩:=N7.out.outs
     have HQ:=AS hq_
     have HQ2:=AS (show w7.heap[g+3]?=M (O #[J A1 n1 c1,J A2 n2 c2] 138 (0,0)) from by rw[<- hpq];exact hq_)
     have q0_:=cw HQ2.out 0 (v:=J A1 n1 c1)
     have q1_:=cw HQ2.out 1 (v:=J A2 n2 c2)
     have RB:=AS (N7.out.at_ (g:=g+2) (ob:=O #[J U 0 0,J U 0 0] 138) zB)
     have r0_:=cw RB.out 0 (v:=J U 0 0)
     have r1_:=cw RB.out 1 (v:=J U 0 0)
     have rz0_:=jA RB.out 0
     have rz1_:=jA RB.out 1
     clear hq_
     go_wp2
     refine yA (v:=.agg #[J A1 n1 c1,J A2 n2 c2]) (by simp[results,Tryz.results60,go_sem,r0_,r1_]) rfl ?_
     (try rw[hr])
     exact NX.fin (v:=fun a b=>.agg #[a,b]) (r:=g+2) (ob:=O #[J U 0 0,J U 0 0] 138) N7.out zB (fun x hx=>H6.out x (by rw[<- hg];exact hx)) HQ.out (by repeat (with_reducible first | exact qB _ _ | apply sB | apply tB))
    by_cases c4:k=4
    ·have hr:=((HR.out.trans (if_neg c1)).trans (if_neg c2)).trans (if_pos c4)
     have lk':(Instr.lookup 198 (.map (M wc.heap.size)) (V I k) true).run dA W4=.ok (.tuple #[.func (.func 94) #[bA (M ⟨pb,0,U⟩)] #[],aA true]) W4:=by rw[lk];simp[fput,c4]
     have lk2:=lk'
     rw[c4] at lk2
     have CA:=AS (N3.out.call (fun K1 h=>nodeActivate_any h (by show 0≤_;omega) ⟨4,f,n.id,b,qq,wh,wr,⟨c0,oo,hh,dd⟩⟩ ⟨d0,d1,d2⟩))
     rw[c4,q2] at hr
     rw[hpb,hpq] at CA
     simp only[letV,drwV] at CA
     clear lk
     go_wp2_with fail
     refine CA.out.mono ?_
     rintro e w7 ⟨rfl,h7⟩
     have N7:=AS h7
     clear h7 CA lk'
     obtain⟨A1,n1,c1,A2,n2,c2,hq_⟩:=N7.out.outs
     have HQ:=AS hq_
     have HQ2:=AS (show w7.heap[g+3]?=M (O #[J A1 n1 c1,J A2 n2 c2] 138 (0,0)) from by rw[<- hpq];exact hq_)
     have q0_:=cw HQ2.out 0 (v:=J A1 n1 c1)
     have q1_:=cw HQ2.out 1 (v:=J A2 n2 c2)
     have RB:=AS (N7.out.at_ (g:=g+2) (ob:=O #[J U 0 0,J U 0 0] 138) zB)
     have r0_:=cw RB.out 0 (v:=J U 0 0)
     have r1_:=cw RB.out 1 (v:=J U 0 0)
     have rz0_:=jA RB.out 0
     have rz1_:=jA RB.out 1
     clear hq_
     go_wp2
     refine yA (v:=.agg #[J A1 n1 c1,J A2 n2 c2]) (by simp[results,Tryz.results60,go_sem,r0_,r1_]) rfl ?_
     (try rw[hr])
     exact NX.fin (v:=fun a b=>.agg #[a,b]) (r:=g+2) (ob:=O #[J U 0 0,J U 0 0] 138) N7.out zB (fun x hx=>H6.out x (by rw[<- hg];exact hx)) HQ.out (by repeat (with_reducible first | exact qB _ _ | apply sB | apply tB))
    by_cases c6:k=6
    ·have hr:=(((HR.out.trans (if_neg c1)).trans (if_neg c2)).trans (if_neg c4)).trans (if_pos c6)
     have lk':(Instr.lookup 198 (.map (M wc.heap.size)) (V I k) true).run dA W4=.ok (.tuple #[.func (.func 95) #[bA (M ⟨pb,0,U⟩)] #[],aA true]) W4:=by rw[lk];simp[fput,c6]
     have lk2:=lk'
     rw[c6] at lk2
     have CA:=AS (N3.out.call (fun K1 h=>nodeDeact_any h (by show 0≤_;omega) ⟨6,f,n.id,b,qq,wh,wr,⟨c0,oo,hh,dd⟩⟩ ⟨d0,d1,d2⟩))
     rw[c6,q2] at hr
     rw[hpb,hpq] at CA
     simp only[letV,drwV] at CA
     clear lk
     go_wp2_with fail
     refine CA.out.mono ?_
     rintro e w7 ⟨rfl,h7⟩
     have N7:=AS h7
     clear h7 CA lk'
     obtain⟨A1,n1,c1,A2,n2,c2,hq_⟩:=N7.out.outs
     have HQ:=AS hq_
     have HQ2:=AS (show w7.heap[g+3]?=M (O #[J A1 n1 c1,J A2 n2 c2] 138 (0,0)) from by rw[<- hpq];exact hq_)
     have q0_:=cw HQ2.out 0 (v:=J A1 n1 c1)
     have q1_:=cw HQ2.out 1 (v:=J A2 n2 c2)
     have RB:=AS (N7.out.at_ (g:=g+2) (ob:=O #[J U 0 0,J U 0 0] 138) zB)
     have r0_:=cw RB.out 0 (v:=J U 0 0)
     have r1_:=cw RB.out 1 (v:=J U 0 0)
     have rz0_:=jA RB.out 0
     have rz1_:=jA RB.out 1
     clear hq_
     go_wp2
     refine yA (v:=.agg #[J A1 n1 c1,J A2 n2 c2]) (by simp[results,Tryz.results60,go_sem,r0_,r1_]) rfl ?_
     (try rw[hr])
     exact NX.fin (v:=fun a b=>.agg #[a,b]) (r:=g+2) (ob:=O #[J U 0 0,J U 0 0] 138) N7.out zB (fun x hx=>H6.out x (by rw[<- hg];exact hx)) HQ.out (by repeat (with_reducible first | exact qB _ _ | apply sB | apply tB))
    have hr:=(((HR.out.trans (if_neg c1)).trans (if_neg c2)).trans (if_neg c4)).trans (if_neg c6)
    have lk':(Instr.lookup 198 (.map (M wc.heap.size)) (V I k) true).run dA W4=.ok (.tuple #[.nilFunc,aA false]) W4:=by rw[lk];simp[fput,c1,c2,c4,c6]
    clear lk
    obtain⟨A1,n1,c1,A2,n2,c2,hq_⟩:=N3.out.outs
    have HQ:=AS hq_
    have HQ2:=AS (show W4.heap[g+3]?=M (O #[J A1 n1 c1,J A2 n2 c2] 138 (0,0)) from by rw[<- hpq];exact hq_)
    have q0_:=cw HQ2.out 0 (v:=J A1 n1 c1)
    have q1_:=cw HQ2.out 1 (v:=J A2 n2 c2)
    have RB:=AS (N3.out.at_ (g:=g+2) (ob:=O #[J U 0 0,J U 0 0] 138) zB)
    have r0_:=cw RB.out 0 (v:=J U 0 0)
    have r1_:=cw RB.out 1 (v:=J U 0 0)
    have rz0_:=jA RB.out 0
    have rz1_:=jA RB.out 1
    clear hq_
    go_wp2
    refine yA (v:=.agg #[J A1 n1 c1,J A2 n2 c2]) (by simp[results,Tryz.results60,go_sem,r0_,r1_]) rfl ?_
    (try rw[hr])
    exact NX.fin (v:=fun a b=>.agg #[a,b]) (r:=g+2) (ob:=O #[J U 0 0,J U 0 0] 138) N3.out zB (fun x hx=>H6.out x (by rw[<- hg];exact hx)) HQ.out (by repeat (with_reducible first | exact qB _ _ | apply sB | apply tB))
theorem nodeTake_any {c:Cfg} {n:S.Node} {p:NPtr} {K:Nat->Nat} {w:cA} (hN:NodeK c n p K w) (h6:∀ x,x < w.heap.size->K x≠6) (l:Let) (d:Drw):bB dA 60 #[bA (M ⟨p.b,0,U⟩),letV l,drwV d] w (NRes (fun a b=>.agg #[a,b]) c (n.take c l d).1 (n.take c l d).2 p K w) :=
 nodeTake_aux (p:={ p with q:=w.heap.size+3 }) hN rfl h6 l d
end Go.Proofs.YtiebppkhaiofeaaGreat.K
