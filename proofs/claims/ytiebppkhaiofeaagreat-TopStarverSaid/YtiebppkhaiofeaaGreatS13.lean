/- Part of the proof of TopStarver: what functions of the program do. -/
import Derived.Test.YtiebppkhaiofeaaGreatS12
set_option maxHeartbeats 4000000
set_option maxRecDepth 100000
set_option linter.unusedVariables false
set_option linter.unusedSimpArgs false
namespace Go.Proofs.YtiebppkhaiofeaaGreat.K
open Go.RowKit Go.Proofs.YtiebppkhaiofeaaGreatW.PrintWords Go.Proofs.YtiebppkhaiofeaaGreat.S
attribute [local go_sem] World.cell?_alloc_some
open Go.ChangeMaps Go.MapKept
theorem Node.tokens_eq (c:Cfg) (n:S.Node) (l:Let) (o:S.Out):n.tokens c l o=if (n.other l.block).isSome=true then (n,o.send (tokensL n.id (Table.actOf n.know l.block).node l.block l.bun)) else ({ n with lines:=(n.lines.absorb c l.block l.bun n.cpu.pinned).1 }:S.Node).settle c (match (n.lines.absorb c l.block l.bun n.cpu.pinned).2 with | some g=>o.send (tokensL n.id c.nodes g.block g.bun) | none=>o):=by
 unfold Node.tokens
 cases h:n.other l.block with
 | none=>exact(if_neg (by simp)).symm
 | some tt =>
  have:=other_some_ (n:=n) (b:=l.block) (by rw[h];rfl)
  rw[h] at this
  injection this with this
  show(n,o.send (tokensL n.id tt l.block l.bun))=_
  rw[if_pos (by rfl),<- this]
theorem KS.set1 {w W:Go.World} {g:Nat} (h:KS (fun x=>x=g) w W) (i:Nat) (u:Value):KS (fun x=>x=g) w (W.setCell ⟨g,i,none⟩ u):=KS.set h (.inl rfl) i u
def NX (c:Cfg) (n:S.Node) (o:S.Out) (p:NPtr) (K:Nat->Nat) (w:Go.World) (bx:List (Nat×Obj)) (w':Go.World):Prop:=∃ K',(∀ x,x < w.heap.size->K' x=K x)/\NO c n o p K' w'/\KS (fun x=>K x≤6) w w'/\(∀ q∈bx,K' q.1=7/\w.heap.size≤q.1/\w'.heap[q.1]?=some q.2)/\(bx.map (·.1)).Nodup
section
variable {c:Cfg} {n n':S.Node} {o o':S.Out} {p:NPtr} {K:Nat->Nat} {w w1 w2:Go.World} {bx:List (Nat×Obj)}
theorem NX.ns (h:NX c n o p K w bx w1):NS c n o p K w w1:=by obtain⟨K1,h1,h2,h3,-⟩:=h;exact⟨K1,h1,h2,h3⟩
theorem NX.at_ (h:NX c n o p K w bx w1) {g:Nat} {ob:Obj} (hq:(g,ob)∈bx):w1.heap[g]?=some ob:=by obtain⟨K1,-,-,-,h4,-⟩:=h;exact(h4 _ hq).2.2
theorem NX.node (h:NX c n o p K w bx w1):w1.heap[p.b]?=some (.cells (nodeC c n p) 133 (0,0)):=by obtain⟨K1,-,h,-⟩:=h;exact h.1.1
theorem NX.have_ {P:Prop} (h:NX c n o p K w bx w1) (hs:∀ K1,NO c n o p K1 w1->P):P:=by obtain⟨K1,-,h,-⟩:=h;exact hs K1 h
theorem NS.nx (h:NS c n o p K w w1):NX c n o p K w [] w1:=by obtain⟨K1,h1,h2,h3⟩:=h;exact⟨K1,h1,h2,h3,(fun q hq=>by cases hq),List.nodup_nil⟩
theorem NX.new (h:NX c n o p K w bx w1) (hb:Below w1.heap.size w1 w2) {g:Nat} {ob:Obj} (hg:w1.heap.size≤g) (ho:w2.heap[g]?=some ob):NX c n o p K w ((g,ob) :: bx) w2:=by
 obtain⟨K1,ha,hN,hk,hB,hD⟩:=h
 have hsz:=hk.size
 refine⟨rec_ K1 w1 7,fun x hx=>(rec_old (by omega)).trans (ha x hx),hN.below hb 7,hk.trans (KS.below (fun _=>False) hb) (fun x _ h=>h.elim),fun q hq=>?_,List.nodup_cons.2 ⟨fun hm=>?_,hD⟩⟩
 ·rcases List.mem_cons.1 hq with rfl | hq
  ·exact⟨rec_new hg,by show _≤g;omega,ho⟩
  ·have hlt:=blk_lt (hB q hq).2.2
   exact⟨(rec_old hlt).trans (hB q hq).1,(hB q hq).2.1,(hb.block _ hlt).trans (hB q hq).2.2⟩
 ·obtain⟨q,hq,e⟩:=List.mem_map.1 hm
  have hlt:=blk_lt (hB q hq).2.2
  have e':q.1=g:=e
  omega
theorem NX.tail {q:Nat×Obj} (h:NX c n o p K w (q :: bx) w1):NX c n o p K w bx w1:=by
 obtain⟨K1,ha,hN,hk,hB,hD⟩:=h
 exact⟨K1,ha,hN,hk,(fun x hx=>hB x (List.mem_cons_of_mem _ hx)),(List.nodup_cons.1 hD).2⟩
theorem NX.below (h:NX c n o p K w bx w1) (hb:Below w1.heap.size w1 w2):NX c n o p K w bx w2:=by
 obtain⟨K1,ha,hN,hk,hB,hD⟩:=h
 have hsz:=hk.size
 refine⟨rec_ K1 w1 7,fun x hx=>(rec_old (by omega)).trans (ha x hx),hN.below hb 7,hk.trans (KS.below (fun _=>False) hb) (fun x _ h=>h.elim),fun q hq=>?_,hD⟩
 have hlt:=blk_lt (hB q hq).2.2
 exact⟨(rec_old hlt).trans (hB q hq).1,(hB q hq).2.1,(hb.block _ hlt).trans (hB q hq).2.2⟩
theorem NX.box (h:NX c n o p K w bx w1) (ob:Obj):NX c n o p K w ((w1.heap.size,ob) :: bx) (w1.alloc ob):=h.new (below_alloc (Below.refl _ _) ob) (Nat.le_refl _) (blk_new w1 ob)
theorem NX.drew (h:NX c n o p K w bx w1):NX c n o p K w bx w1.drew:=h.below (Below.drew (Below.refl _ _))
theorem NX.via (h:NX c n o p K w bx w1) (hs:∀ K1,NO c n o p K1 w1->NS c n' o' p K1 w1 w2):NX c n' o' p K w bx w2:=by
 obtain⟨K1,ha,hN,hk,hB,hD⟩:=h
 obtain⟨K2,hb,hN2,hk2⟩:=hs K1 hN
 have hsz:=hk.size
 exact⟨K2,fun x hx=>(hb x (by omega)).trans (ha x hx),hN2,hk.trans hk2 (fun x hx h=>by rw[<- ha x hx];exact h),fun q hq=>⟨(hb _ (blk_lt (hB q hq).2.2)).trans (hB q hq).1,(hB q hq).2.1,hk2.at_ (hB q hq).2.2 (by have:=(hB q hq).1;show ¬ K1 q.1≤6;omega)⟩,hD⟩
theorem NX.call {f:Nat} {args:Array Value} {v:Value} (h:NX c n o p K w bx w1) (hs:∀ K1,NO c n o p K1 w1->Calls Tryz.prog f args w1 (NOP v c n' o' p K1 w1)):Calls Tryz.prog f args w1 (fun e w'=>e=.returned v/\NX c n' o' p K w bx w'):=by
 have h0:=h
 obtain⟨K1,ha,hN,hk,hB,hD⟩:=h
 refine(hs K1 hN).mono ?_
 rintro e w2 ⟨rfl,K2,hb,hN2,hk2⟩
 have hsz:=hk.size
 exact⟨rfl,K2,fun x hx=>(hb x (by omega)).trans (ha x hx),hN2,hk.trans hk2 (fun x hx h=>by rw[<- ha x hx];exact h),fun q hq=>⟨(hb _ (blk_lt (hB q hq).2.2)).trans (hB q hq).1,(hB q hq).2.1,hk2.at_ (hB q hq).2.2 (by have:=(hB q hq).1;show ¬ K1 q.1≤6;omega)⟩,hD⟩
theorem NX.put {g:Nat} {ob ob':Obj} (h:NX c n o p K w ((g,ob) :: bx) w1) (hk2:KS (fun x=>x=g) w1 w2) (ho:w2.heap[g]?=some ob'):NX c n o p K w ((g,ob') :: bx) w2:=by
 obtain⟨K1,ha,hN,hk,hB,hD⟩:=h
 have hd:∀ q∈bx,q.1≠g:=fun q hq e=>(List.nodup_cons.1 hD).1 (List.mem_map.2 ⟨q,hq,e⟩)
 have hsz:=hk.size
 have hg7:=(hB _ (List.mem_cons_self)).1
 simp only at hg7
 have hgw:=(hB _ (List.mem_cons_self)).2.1
 simp only at hgw
 refine⟨rec_ K1 w1 7,fun x hx=>(rec_old (by omega)).trans (ha x hx),?_,⟨hk2.1.trans hk.1,hk2.2.1.trans hk.2.1,hk2.2.2.1.trans hk.2.2.1,Nat.le_trans hsz hk2.size,fun i hi hF=>(hk2.2.2.2.2 i (by omega) (fun e=>by have e':i=g:=e;omega)).trans (hk.2.2.2.2 i hi hF)⟩,fun q hq=>?_,hD⟩
 ·refine⟨hN.1.keep hk2 (fun x hx h5=>⟨rec_old hx,fun e=>?_⟩),hN.2.keep hk2 (fun x hx h6=>⟨(rec_old hx).trans h6,fun e=>?_⟩)⟩
  ·have e':x=g:=e
   rw[e'] at h5;omega
  ·have e':x=g:=e
   rw[e'] at h6;omega
 ·rcases List.mem_cons.1 hq with rfl | hq
  ·exact⟨by simp only;rw[rec_old (blk_lt (hB _ (List.mem_cons_self)).2.2)];exact hg7,hgw,ho⟩
  ·have hlt:=blk_lt (hB q (List.mem_cons_of_mem _ hq)).2.2
   exact⟨(rec_old hlt).trans (hB q (List.mem_cons_of_mem _ hq)).1,(hB q (List.mem_cons_of_mem _ hq)).2.1,hk2.at_ (hB q (List.mem_cons_of_mem _ hq)).2.2 (hd q hq)⟩
theorem NX.pass {g:Nat} {ob:Obj} (h:NX c n o p K w ((g,ob) :: bx) w1) (hk2:KS (fun x=>x=g) w1 w2):NX c n o p K w bx w2:=by
 have hlt:=blk_lt (h.at_ (List.mem_cons_self))
 have hlt2:=hk2.size
 obtain⟨ob',ho⟩:∃ ob',w2.heap[g]?=some ob':=⟨w2.heap[g],Array.getElem?_eq_getElem (by omega)⟩
 exact(h.put hk2 ho).tail
end
theorem nodeTokens_any {c:Cfg} {n:S.Node} {o:S.Out} {p:NPtr} {K:Nat->Nat} {w:Go.World} (hN:NO c n o p K w) (hl:o.letters.length≤1000000) (hd:o.done.length≤1000000) (l:Let) (d:Drw):Calls Tryz.prog 92 #[.pointer (some ⟨p.b,0,none⟩),letV l,drwV d,.pointer (some ⟨p.q,0,none⟩)] w (NOP (.tuple #[]) c (n.tokens c l o).1 (n.tokens c l o).2 p K w):=by
 obtain⟨k,f,t,b,qq,wh,wr,⟨c0,oo,hh,dd⟩⟩:=l
 obtain⟨d0,d1,d2⟩:=d
 have HL:=AS (And.intro hl hd)
 have CE:=AS (show ∀ (n':S.Node) (W':Go.World),n'.id=n.id->W'.heap[p.b]?=some (.cells (nodeC c n' p) 133 (0,0))->(W'.cell? ⟨p.b,0,none⟩=some (.int .i64 c.nodes)/\W'.cell? ⟨p.b,1,none⟩=some (.int .i64 c.blocks)/\W'.cell? ⟨p.b,2,none⟩=some (.int .i64 c.tokens)/\W'.cell? ⟨p.b,3,none⟩=some (.int .i64 c.sets)/\W'.cell? ⟨p.b,4,none⟩=some (.int .i64 c.ways)/\W'.cell? ⟨p.b,5,none⟩=some (.int .i64 c.cap)/\W'.cell? ⟨p.b,6,none⟩=some (.int .i64 c.wait)/\W'.cell? ⟨p.b,7,none⟩=some (.int .i64 c.tries)/\W'.cell? ⟨p.b,8,none⟩=some (.int .i64 c.policy)/\W'.cell? ⟨p.b,9,none⟩=some (.int .i64 n.id)/\W'.cell? ⟨p.b,10,none⟩=some (.pointer (some ⟨p.bc,0,none⟩))/\W'.cell? ⟨p.b,11,none⟩=some (.pointer (some ⟨p.bt,0,none⟩))/\W'.cell? ⟨p.b,12,none⟩=some (.pointer (some ⟨p.bp,0,none⟩))/\W'.cell? ⟨p.b,13,none⟩=some (.map (some p.ba))/\W'.cell? ⟨p.b,14,none⟩=some (.map (some p.bo))) from fun n' W' hi h=>⟨cw h 0,cw h 1,cw h 2,cw h 3,cw h 4,cw h 5,cw h 6,cw h 7,cw h 8,by rw[<- hi];exact(cw h 9),cw h 10,cw h 11,cw h 12,cw h 13,cw h 14⟩)
 have N1:=AS (((NS.refl hN).nx.box (.cells #[.int .i64 k,.int .i64 f,.int .i64 t,.int .i64 b,.int .i64 qq,.int .i64 wh,.bool wr,.int .i64 c0,.bool oo,.bool hh,.int .i64 dd] 47)).box (.cells #[.int .i64 d0,.int .i64 d1,.int .i64 d2] 74))
 rw[show(w.alloc (.cells #[.int .i64 k,.int .i64 f,.int .i64 t,.int .i64 b,.int .i64 qq,.int .i64 wh,.bool wr,.int .i64 c0,.bool oo,.bool hh,.int .i64 dd] 47)).heap.size=w.heap.size+1 by simp] at N1
 show Calls Tryz.prog 92 #[.pointer (some ⟨p.b,0,none⟩),.agg #[.int .i64 k,.int .i64 f,.int .i64 t,.int .i64 b,.int .i64 qq,.int .i64 wh,.bool wr,.int .i64 c0,.bool oo,.bool hh,.int .i64 dd],.agg #[.int .i64 d0,.int .i64 d1,.int .i64 d2],.pointer (some ⟨p.q,0,none⟩)] w (NOP (.tuple #[]) c (n.tokens c ⟨k,f,t,b,qq,wh,wr,⟨c0,oo,hh,dd⟩⟩ o).1 (n.tokens c ⟨k,f,t,b,qq,wh,wr,⟨c0,oo,hh,dd⟩⟩ o).2 p K w)
 have HR:=AS (Node.tokens_eq c n ⟨k,f,t,b,qq,wh,wr,⟨c0,oo,hh,dd⟩⟩ o)
 simp only at HR
 generalize n.tokens c ⟨k,f,t,b,qq,wh,wr,⟨c0,oo,hh,dd⟩⟩ o=R at *
 clear hN hl hd
 generalize hpb:p.b=pb at *
 go_enter Tryz.func92,Tryz.ntmps92
 go_upto_region 1 with fail
 generalize ((w.alloc (.cells #[.int .i64 k,.int .i64 f,.int .i64 t,.int .i64 b,.int .i64 qq,.int .i64 wh,.bool wr,.int .i64 c0,.bool oo,.bool hh,.int .i64 dd] 47)).alloc (.cells #[.int .i64 d0,.int .i64 d1,.int .i64 d2] 74))=W at N1 ⊢
 generalize hg:w.heap.size=g at *
 have K0:=AS (show ∀ (n':S.Node) (o':S.Out) (bx:List (Nat×Obj)) x,NX c n' o' p K w bx x->n'.id=n.id->(g,(.cells #[.int .i64 k,.int .i64 f,.int .i64 t,.int .i64 b,.int .i64 qq,.int .i64 wh,.bool wr,.int .i64 c0,.bool oo,.bool hh,.int .i64 dd] 47:Obj))∈bx->(x.cell? ⟨g,3,none⟩=some (.int .i64 b)) from fun n' o' bx x hx hid m0=>by
  have hb0:=hx.at_ m0
  exact(cw hb0 3))
 have hS_:=K0.out _ _ _ _ N1.out rfl (by simp)
 have e0_:=hS_
 clear hS_
 go_wp2_with fail
 have OT:=AS (show Calls Tryz.prog 129 #[.pointer (some ⟨pb,0,none⟩),.int .i64 b] W (RV (.tuple #[.int .i64 (Table.actOf n.know b).node,.bool (n.other b).isSome]) W) from by obtain⟨K1,-,h,-⟩:=N1.out;have:=nodeOther_any h.1 b;rw[hpb] at this;exact this)
 generalize (n.other b).isSome=ok at *
 generalize (Table.actOf n.know b).node=tt at *
 refine OT.out.mono ?_
 rintro e w2 ⟨rfl,hb2⟩
 have N2:=AS (N1.out.below hb2)
 clear hb2 OT N1 e0_ K0
 cases ok
 case true =>
  have hr:=HR.out.trans (if_pos rfl)
  clear HR
  have KEEP:=AS (show ∀ (n':S.Node) (o':S.Out) (bx:List (Nat×Obj)) x,NX c n' o' p K w bx x->n'.id=n.id->(g,(.cells #[.int .i64 k,.int .i64 f,.int .i64 t,.int .i64 b,.int .i64 qq,.int .i64 wh,.bool wr,.int .i64 c0,.bool oo,.bool hh,.int .i64 dd] 47:Obj))∈bx->(x.cell? ⟨pb,9,none⟩=some (.int .i64 n.id)/\x.cell? ⟨g,3,none⟩=some (.int .i64 b)/\x.cell? ⟨g,7,none⟩=some (.int .i64 c0)/\x.cell? ⟨g,8,none⟩=some (.bool oo)/\x.cell? ⟨g,9,none⟩=some (.bool hh)/\x.cell? ⟨g,10,none⟩=some (.int .i64 dd)) from fun n' o' bx x hx hid m0=>by
   have hce:=(show _ from by have h11:=hx.node;rw[hpb] at h11;exact CE.out n' _ hid h11)
   have hb0:=hx.at_ m0
   exact⟨hce.2.2.2.2.2.2.2.2.2.1,cw hb0 3,cw hb0 7,cw hb0 8,cw hb0 9,cw hb0 10⟩)
  go_upto_region 3 with fail
  have hS_:=KEEP.out _ _ _ _ N2.out rfl (by simp)
  have e0_:=hS_.1
  have e1_:=hS_.2.1
  have e2_:=hS_.2.2.1
  have e3_:=hS_.2.2.2.1
  have e4_:=hS_.2.2.2.2.1
  have e5_:=hS_.2.2.2.2.2
  clear hS_
  go_region_held3 (fun x=>x.cell? ⟨pb,9,none⟩=some (.int .i64 n.id)/\x.cell? ⟨g,3,none⟩=some (.int .i64 b)/\x.cell? ⟨g,7,none⟩=some (.int .i64 c0)/\x.cell? ⟨g,8,none⟩=some (.bool oo)/\x.cell? ⟨g,9,none⟩=some (.bool hh)/\x.cell? ⟨g,10,none⟩=some (.int .i64 dd)) (((try dsimp only);apply KEEP.out;(focus (with_reducible first | apply N4.out | apply N3.out | apply N2.out | apply N2.out.drew));exact rfl;(all_goals simp))) ((first | (go_at_call 130;refine(tokens_any _ _ _ _ _ _ _ _).mono ?_;rintro e w3 ⟨rfl,hb3⟩;have N3:=AS (N2.out.below (show Below w2.heap.size w2 w3 from(Below.drew (Below.refl _ _)).trans (hb3.mono (Nat.le_refl _))));clear hb3;simp only[letV,tokensL]) | (go_at_call 97;refine(N3.out.call (fun K1 h=>h.send (by have:=HL.out.1;omega) ⟨1,n.id,tt,b,0,0,false,⟨c0,oo,hh,dd⟩⟩)).mono ?_;rintro e w4 ⟨rfl,h4⟩;have N4:=AS h4;clear h4)))
  go_wp2
  go_end0
  rw[hr]
  exact NOP.ns rfl N4.out.ns
 case false =>
  have hr:=HR.out.trans (if_neg (by simp))
  have HR2:=AS hr
  clear HR hr
  have KEEP:=AS (show ∀ (n':S.Node) (o':S.Out) (bx:List (Nat×Obj)) x,NX c n' o' p K w bx x->n'.id=n.id->(g,(.cells #[.int .i64 k,.int .i64 f,.int .i64 t,.int .i64 b,.int .i64 qq,.int .i64 wh,.bool wr,.int .i64 c0,.bool oo,.bool hh,.int .i64 dd] 47:Obj))∈bx->(x.cell? ⟨pb,10,none⟩=some (.pointer (some ⟨p.bc,0,none⟩))/\x.cell? ⟨pb,12,none⟩=some (.pointer (some ⟨p.bp,0,none⟩))/\x.cell? ⟨g,3,none⟩=some (.int .i64 b)/\x.cell? ⟨g,7,none⟩=some (.int .i64 c0)/\x.cell? ⟨g,8,none⟩=some (.bool oo)/\x.cell? ⟨g,9,none⟩=some (.bool hh)/\x.cell? ⟨g,10,none⟩=some (.int .i64 dd)) from fun n' o' bx x hx hid m0=>by
   have hce:=(show _ from by have h11:=hx.node;rw[hpb] at h11;exact CE.out n' _ hid h11)
   have hb0:=hx.at_ m0
   exact⟨hce.2.2.2.2.2.2.2.2.2.2.1,hce.2.2.2.2.2.2.2.2.2.2.2.2.1,cw hb0 3,cw hb0 7,cw hb0 8,cw hb0 9,cw hb0 10⟩)
  go_upto_region 4 with fail
  have hS_:=KEEP.out _ _ _ _ N2.out rfl (by simp)
  have e0_:=hS_.1
  have e1_:=hS_.2.1
  have e2_:=hS_.2.2.1
  have e3_:=hS_.2.2.2.1
  have e4_:=hS_.2.2.2.2.1
  have e5_:=hS_.2.2.2.2.2.1
  have e6_:=hS_.2.2.2.2.2.2
  clear hS_
  have PIN:=AS (show ∀ W',Below w2.heap.size w2 W'->Calls Tryz.prog 132 #[.pointer (some ⟨p.bp,0,none⟩)] W' (RQ (.int .i64 n.cpu.pinned) W') from fun W' hb=>(N2.out.below hb).have_ fun K1 h=>pinned_any h.1.2.2.2.2.1)
  have AB:=AS (show ∀ bx W',NX c n o p K w bx W'->_ from fun bx W' h=>h.call (fun K1 h=>h.cacAbsorb b c0 oo hh dd n.cpu.pinned))
  generalize n.cpu.pinned=pin at *
  generalize n.lines.absorb c b ⟨c0,oo,hh,dd⟩ pin=ab at *
  obtain⟨al,ao⟩:=ab
  simp only[absV] at AB
  have HAO:=AS (show ao.getD ⟨0,b0⟩=ao.getD ⟨0,b0⟩ from rfl)
  generalize hgl:ao.getD ⟨0,b0⟩=gl at *
  generalize hgs:ao.isSome=gs at *
  obtain⟨gb,gc,go_,gh,gd⟩:=gl
  simp only[lineV] at AB
  go_cut [10,11] (fun v10 v11 wx=>∃ a,v10=.pointer (some ⟨a,0,none⟩)/\v11=.bool gs/\NX c { n with lines:=al } o p K w [(a,.cells #[.int .i64 gb,.int .i64 gc,.bool go_,.bool gh,.int .i64 gd] 61),(g+1,.cells #[.int .i64 d0,.int .i64 d1,.int .i64 d2] 74),(g,.cells #[.int .i64 k,.int .i64 f,.int .i64 t,.int .i64 b,.int .i64 qq,.int .i64 wh,.bool wr,.int .i64 c0,.bool oo,.bool hh,.int .i64 dd] 47)] wx)
  case first =>
   go_region_held3 (fun x=>x.cell? ⟨pb,10,none⟩=some (.pointer (some ⟨p.bc,0,none⟩))/\x.cell? ⟨pb,12,none⟩=some (.pointer (some ⟨p.bp,0,none⟩))/\x.cell? ⟨g,3,none⟩=some (.int .i64 b)/\x.cell? ⟨g,7,none⟩=some (.int .i64 c0)/\x.cell? ⟨g,8,none⟩=some (.bool oo)/\x.cell? ⟨g,9,none⟩=some (.bool hh)/\x.cell? ⟨g,10,none⟩=some (.int .i64 dd)) (((try dsimp only);apply KEEP.out;(focus (first | with_reducible apply N4.out | with_reducible apply N2.out | with_reducible apply N2.out.drew | (refine NX.below N4.out ?_;(repeat (first | with_reducible exact Below.refl _ _ | with_reducible apply below_alloc | with_reducible apply Below.drew | refine Below.setCell ?_ (by dsimp only;omega) _));done) | (refine NX.below N2.out ?_;(repeat (first | with_reducible exact Below.refl _ _ | with_reducible apply below_alloc | with_reducible apply Below.drew | refine Below.setCell ?_ (by dsimp only;omega) _));done) | (refine NX.pass N4.out ?_;(repeat (with_reducible first | exact KS.refl _ _ | apply KS.drew | apply KS.set1));done)));exact rfl;(all_goals simp))) ((first | (go_at_call 132;refine(PIN.out _ (by repeat (first | with_reducible exact Below.refl _ _ | with_reducible apply below_alloc | with_reducible apply Below.drew | refine Below.setCell ?_ (by dsimp only;omega) _))).mono ?_;rintro e w3 ⟨rfl,rfl⟩) | (go_at_call 131;refine(AB.out _ _ N2.out.drew).mono ?_;rintro e w4 ⟨rfl,h4⟩;have N4:=AS h4;clear h4;have Z:=AS (show(w4.alloc (.cells #[.int .i64 0,.int .i64 0,.bool false,.bool false,.int .i64 0] 61)).heap[w4.heap.size]?=some (.cells #[.int .i64 0,.int .i64 0,.bool false,.bool false,.int .i64 0] 61) from blk_new w4 _);have z0:(w4.alloc (.cells #[.int .i64 0,.int .i64 0,.bool false,.bool false,.int .i64 0] 61)).cell? ⟨w4.heap.size,0,none⟩=some (.int .i64 0):=cw Z.out 0;have zz0:(w4.alloc (.cells #[.int .i64 0,.int .i64 0,.bool false,.bool false,.int .i64 0] 61)).frozen? ⟨w4.heap.size,0,none⟩=false:=blk_frozen Z.out 0;have z1:(w4.alloc (.cells #[.int .i64 0,.int .i64 0,.bool false,.bool false,.int .i64 0] 61)).cell? ⟨w4.heap.size,1,none⟩=some (.int .i64 0):=cw Z.out 1;have zz1:(w4.alloc (.cells #[.int .i64 0,.int .i64 0,.bool false,.bool false,.int .i64 0] 61)).frozen? ⟨w4.heap.size,1,none⟩=false:=blk_frozen Z.out 1;have z2:(w4.alloc (.cells #[.int .i64 0,.int .i64 0,.bool false,.bool false,.int .i64 0] 61)).cell? ⟨w4.heap.size,2,none⟩=some (.bool false):=cw Z.out 2;have zz2:(w4.alloc (.cells #[.int .i64 0,.int .i64 0,.bool false,.bool false,.int .i64 0] 61)).frozen? ⟨w4.heap.size,2,none⟩=false:=blk_frozen Z.out 2;have z3:(w4.alloc (.cells #[.int .i64 0,.int .i64 0,.bool false,.bool false,.int .i64 0] 61)).cell? ⟨w4.heap.size,3,none⟩=some (.bool false):=cw Z.out 3;have zz3:(w4.alloc (.cells #[.int .i64 0,.int .i64 0,.bool false,.bool false,.int .i64 0] 61)).frozen? ⟨w4.heap.size,3,none⟩=false:=blk_frozen Z.out 3;have z4:(w4.alloc (.cells #[.int .i64 0,.int .i64 0,.bool false,.bool false,.int .i64 0] 61)).cell? ⟨w4.heap.size,4,none⟩=some (.int .i64 0):=cw Z.out 4;have zz4:(w4.alloc (.cells #[.int .i64 0,.int .i64 0,.bool false,.bool false,.int .i64 0] 61)).frozen? ⟨w4.heap.size,4,none⟩=false:=blk_frozen Z.out 4) | (go_at_call 131;refine(AB.out _ _ (N2.out.drew.box (.cells #[.int .i64 0,.int .i64 0,.bool false,.bool false,.int .i64 0] 61))).mono ?_;rintro e w4 ⟨rfl,h4⟩;have N4:=AS (show NX c { n with lines:=al } o p K w [(w2.heap.size,.cells #[.int .i64 0,.int .i64 0,.bool false,.bool false,.int .i64 0] 61),(g+1,.cells #[.int .i64 d0,.int .i64 d1,.int .i64 d2] 74),(g,.cells #[.int .i64 k,.int .i64 f,.int .i64 t,.int .i64 b,.int .i64 qq,.int .i64 wh,.bool wr,.int .i64 c0,.bool oo,.bool hh,.int .i64 dd] 47)] w4 from h4);clear h4;have Z:=AS (show w4.heap[w2.heap.size]?=some (.cells #[.int .i64 0,.int .i64 0,.bool false,.bool false,.int .i64 0] 61) from N4.out.at_ (List.mem_cons_self));have z0:w4.cell? ⟨w2.heap.size,0,none⟩=some (.int .i64 0):=cw Z.out 0;have zz0:=blk_frozen Z.out 0;have z1:w4.cell? ⟨w2.heap.size,1,none⟩=some (.int .i64 0):=cw Z.out 1;have zz1:w4.frozen? ⟨w2.heap.size,1,none⟩=false:=blk_frozen Z.out 1;have z2:w4.cell? ⟨w2.heap.size,2,none⟩=some (.bool false):=cw Z.out 2;have zz2:w4.frozen? ⟨w2.heap.size,2,none⟩=false:=blk_frozen Z.out 2;have z3:w4.cell? ⟨w2.heap.size,3,none⟩=some (.bool false):=cw Z.out 3;have zz3:w4.frozen? ⟨w2.heap.size,3,none⟩=false:=blk_frozen Z.out 3;have z4:w4.cell? ⟨w2.heap.size,4,none⟩=some (.int .i64 0):=cw Z.out 4;have zz4:w4.frozen? ⟨w2.heap.size,4,none⟩=false:=blk_frozen Z.out 4)))
   all_goals
    go_wp2_with fail
    go_meet
    refine⟨_,rfl,rfl,?_⟩
    first
     | (with_reducible apply NX.put N4.out;(focus ((repeat (with_reducible first | exact KS.refl _ _ | apply KS.drew | apply KS.set1));done));exact(blk_set (blk_set (blk_set (blk_set (blk_set Z.out 0 _) 1 _) 2 _) 3 _) 4 _).trans (by simp))
     | (with_reducible apply NX.new N4.out;(focus ((repeat (first | with_reducible exact Below.refl _ _ | with_reducible apply below_alloc | with_reducible apply Below.drew | refine Below.setCell ?_ (by dsimp only;omega) _));done));(focus (exact Nat.le_refl _));exact(blk_set (blk_set (blk_set (blk_set (blk_set Z.out 0 _) 1 _) 2 _) 3 _) 4 _).trans (by simp))
     | with_reducible apply N4.out.box
  case rest =>
   obtain⟨a,rfl,rfl,hcut⟩:=hcut
   have N5:=AS hcut
   clear e0_ e1_ e2_ e3_ e4_ e5_ e6_
   clear hcut PIN AB KEEP HAO N2
   have hr:=HR2.out
   cases gs
   case false =>
    obtain rfl:ao=none:=by cases ao with | none=>rfl | some x=>simp at hgs
    simp only at hr
    have ST:=AS (N5.out.call (fun K1 h=>nodeSettle_any h (by have:=HL.out.1;omega) (by have:=HL.out.2;omega)))
    rw[hpb] at ST
    go_wp2_with fail
    refine ST.out.mono ?_
    rintro e w7 ⟨rfl,h7⟩
    have N7:=AS h7
    clear h7 ST
    go_wp2
    go_end0
    rw[hr]
    exact NOP.ns rfl N7.out.ns
   case true =>
    obtain rfl:ao=some ⟨gb,gc,go_,gh,gd⟩:=by cases ao with | none=>simp at hgs | some x=>simp at hgl;rw[hgl]
    simp only at hr
    have KEEP:=AS (show ∀ (n':S.Node) (o':S.Out) (bx:List (Nat×Obj)) x,NX c n' o' p K w bx x->n'.id=n.id->(a,(.cells #[.int .i64 gb,.int .i64 gc,.bool go_,.bool gh,.int .i64 gd] 61:Obj))∈bx->(x.cell? ⟨pb,0,none⟩=some (.int .i64 c.nodes)/\x.cell? ⟨pb,9,none⟩=some (.int .i64 n.id)/\x.cell? ⟨a,0,none⟩=some (.int .i64 gb)/\x.cell? ⟨a,1,none⟩=some (.int .i64 gc)/\x.cell? ⟨a,2,none⟩=some (.bool go_)/\x.cell? ⟨a,3,none⟩=some (.bool gh)/\x.cell? ⟨a,4,none⟩=some (.int .i64 gd)) from fun n' o' bx x hx hid m0=>by
     have hce:=(show _ from by have h11:=hx.node;rw[hpb] at h11;exact CE.out n' _ hid h11)
     have hb0:=hx.at_ m0
     exact⟨hce.1,hce.2.2.2.2.2.2.2.2.2.1,cw hb0 0,cw hb0 1,cw hb0 2,cw hb0 3,cw hb0 4⟩)
    go_upto_region 6 with fail
    have hS_:=KEEP.out _ _ _ _ N5.out rfl (by simp)
    have e0_:=hS_.1
    have e1_:=hS_.2.1
    have e2_:=hS_.2.2.1
    have e3_:=hS_.2.2.2.1
    have e4_:=hS_.2.2.2.2.1
    have e5_:=hS_.2.2.2.2.2.1
    have e6_:=hS_.2.2.2.2.2.2
    clear hS_
    go_region_held3 (fun x=>x.cell? ⟨pb,0,none⟩=some (.int .i64 c.nodes)/\x.cell? ⟨pb,9,none⟩=some (.int .i64 n.id)/\x.cell? ⟨a,0,none⟩=some (.int .i64 gb)/\x.cell? ⟨a,1,none⟩=some (.int .i64 gc)/\x.cell? ⟨a,2,none⟩=some (.bool go_)/\x.cell? ⟨a,3,none⟩=some (.bool gh)/\x.cell? ⟨a,4,none⟩=some (.int .i64 gd)) (((try dsimp only);apply KEEP.out;(focus (with_reducible first | apply N7.out | apply N6.out | apply N5.out | apply N5.out.drew));exact rfl;(all_goals simp))) ((first | (go_at_call 130;refine(tokens_any _ _ _ _ _ _ _ _).mono ?_;rintro e w6 ⟨rfl,hb6⟩;have N6:=AS (N5.out.below (show Below wc.heap.size wc w6 from(Below.drew (Below.refl _ _)).trans (hb6.mono (Nat.le_refl _))));clear hb6;simp only[letV,tokensL]) | (go_at_call 97;refine(N6.out.call (fun K1 h=>h.send (by have:=HL.out.1;omega) ⟨1,n.id,c.nodes,gb,0,0,false,⟨gc,go_,gh,gd⟩⟩)).mono ?_;rintro e w7 ⟨rfl,h7⟩;have N7:=AS h7;clear h7)))
    have ST:=AS (N7.out.call (fun K1 h=>nodeSettle_any h (by have:=HL.out.1;simp[Out.send];omega) (by have:=HL.out.2;simp[Out.send];omega)))
    rw[hpb] at ST
    go_wp2_with fail
    refine ST.out.mono ?_
    rintro e w8 ⟨rfl,h8⟩
    have N8:=AS h8
    clear h8 ST
    go_wp2
    go_end0
    rw[hr]
    exact NOP.ns rfl N8.out.ns
end Go.Proofs.YtiebppkhaiofeaaGreat.K
