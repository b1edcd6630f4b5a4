/- Part of the proof of TopStarver: what functions of the program do. -/
import Derived.Test.YtiebppkhaiofeaaGreatS33
import Derived.Test.YtiebppkhaiofeaaGreatS27
import Derived.Test.YtiebppkhaiofeaaGreatS28
import Derived.Test.YtiebppkhaiofeaaGreatS29
set_option maxHeartbeats 4000000
set_option maxRecDepth 100000
set_option linter.unusedVariables false
set_option linter.unusedSimpArgs false
namespace Go.Proofs.YtiebppkhaiofeaaGreat.K
open Go.RowKit Go.Proofs.YtiebppkhaiofeaaGreatW.PrintWords Go.Proofs.YtiebppkhaiofeaaGreat.S
attribute [local go_sem] World.cell?_alloc_some
open Go.ChangeMaps Go.MapKept
structure WPt where
 h:Nat
 y:Nat
 A:Option Addr
 cp:Nat
 ns:List Nat
def WPt.v (p:WPt):Value:=.slice p.A p.ns.length p.cp
def wldC (c:Cfg) (s:S.World) (p:WPt):Array Value:=#[.int .i64 c.nodes,.int .i64 c.blocks,.int .i64 c.tokens,.int .i64 c.sets,.int .i64 c.ways,.int .i64 c.cap,.int .i64 c.wait,.int .i64 c.tries,.int .i64 c.policy,
 .int .i64 s.steps,.int .i64 s.ticks,.slice p.A p.ns.length p.cp,.pointer (some ⟨p.h,0,none⟩),.pointer (some ⟨p.y,0,none⟩)]
def WldK (c:Cfg) (s:S.World) (b:Nat) (p:WPt) (K:Nat->Nat) (w:Go.World):Prop :=
 w.heap[b]?=some (.cells (wldC c s p) 91 (0,0))/\K b=0/\OwnE ptrE p.v (p.ns.map some) w/\(∀ x∈foot p.v,K x=1)/\HomeAt c s.home p.h (fun x=>K x=2) w/\NetAt c.cap s.way p.y (fun x=>K x=3) w /\
  p.ns.length=s.nodes.length/\p.ns.length≤64/\∀ i:Nat,i < p.ns.length->NodeAt c (s.nodes.getD i (S.Node.new i)) (p.ns.getD i 0) (fun x=>K x=4+i) w
def AllV (ls:List Let) (ds:List S.Done) (q:Nat) (vl vd:Value) (K:Nat->Nat) (w:Go.World):Prop :=
 w.heap[q]?=some (.cells #[vl,vd] 100 (0,0))/\OwnE letE vl ls w/\OwnE doneE vd ds w/\q∉foot vl/\q∉foot vd/\(∀ x∈foot vl,x∉foot vd)/\K q=101/\(∀ x∈foot vl,K x=101)/\∀ x∈foot vd,K x=101
def AllK (ls:List Let) (ds:List S.Done) (q:Nat) (K:Nat->Nat) (w:Go.World):Prop:=∃ vl vd,AllV ls ds q vl vd K w
section
variable {c:Cfg} {s s':S.World} {b q:Nat} {p:WPt} {K K':Nat->Nat} {w w' w1:Go.World} {G:Set_} {ls:List Let} {ds:List S.Done} {vl vd:Value}
theorem WldK.keep (h:WldK c s b p K w) (hk:KS G w w') (hs:∀ x,x < w.heap.size->K x < 100->K' x=K x/\¬ G x):WldK c s b p K' w':=by
 obtain⟨h1,h2,h3,h4,h5,h6,h7,h8,h9⟩:=h
 have e1:=hs b (blk_lt h1) (by omega)
 refine⟨hk.at_ h1 e1.2,e1.1.trans h2,h3.ks hk (fun x hx=>(hs x (h3.lt x hx) (by rw[h4 x hx];omega)).2),fun x hx=>(hs x (h3.lt x hx) (by rw[h4 x hx];omega)).1.trans (h4 x hx),h5.keep hk (fun x hx hF=>?_),h6.keep hk (fun x hx hF=>?_),h7,h8,fun i hi=>(h9 i hi).keep hk (fun x hx hF=>?_)⟩
 ·have hF':K x=2:=hF
  have:=hs x hx (by omega)
  exact⟨this.1.trans hF',this.2⟩
 ·have hF':K x=3:=hF
  have:=hs x hx (by omega)
  exact⟨this.1.trans hF',this.2⟩
 ·have hF':K x=4+i:=hF
  have:=hs x hx (by omega)
  exact⟨this.1.trans hF',this.2⟩
theorem WldK.turn {k0:Nat} (h:WldK c s b p K w) (hk:KS (fun x=>K x=k0) w w') (hK:∀ x,x < w.heap.size->K' x=K x) (h0:2≤k0)
  (hst:s'.steps=s.steps/\s'.ticks=s.ticks) (hlen:s'.nodes.length=s.nodes.length)
  (hH:HomeAt c s'.home p.h (fun x=>K' x=2) w'∨(k0≠2/\s'.home=s.home)) (hN:NetAt c.cap s'.way p.y (fun x=>K' x=3) w'∨(k0≠3/\s'.way=s.way))
  (hns:∀ i:Nat,i < p.ns.length->NodeAt c (s'.nodes.getD i (S.Node.new i)) (p.ns.getD i 0) (fun x=>K' x=4+i) w'∨(k0≠4+i/\s'.nodes.getD i (S.Node.new i)=s.nodes.getD i (S.Node.new i))):WldK c s' b p K' w':=by
 obtain⟨h1,h2,h3,h4,h5,h6,h7,h8,h9⟩:=h
 have ne:∀ {x k:Nat},K x=k->k≠k0->¬ K x=k0:=fun h1 h2 h3=>h2 (h1.symm.trans h3)
 refine⟨?_,(hK b (blk_lt h1)).trans h2,h3.ks hk (fun x hx=>ne (h4 x hx) (by omega)),fun x hx=>(hK x (h3.lt x hx)).trans (h4 x hx),?_,?_,h7.trans hlen.symm,h8,fun i hi=>?_⟩
 ·have:=hk.at_ h1 (ne h2 (by omega))
  unfold wldC at this ⊢
  rw[hst.1,hst.2];exact this
 ·rcases hH with hH | ⟨e,hH⟩
  ·exact hH
  ·rw[hH];exact h5.keep hk (fun x hx hF=>⟨(hK x hx).trans hF,ne hF (by omega)⟩)
 ·rcases hN with hN | ⟨e,hN⟩
  ·exact hN
  ·rw[hN];exact h6.keep hk (fun x hx hF=>⟨(hK x hx).trans hF,ne hF (by omega)⟩)
 ·rcases hns i hi with hN | ⟨e,hN⟩
  ·exact hN
  ·rw[hN];exact(h9 i hi).keep hk (fun x hx hF=>⟨(hK x hx).trans hF,ne hF (by omega)⟩)
theorem AllV.keep (h:AllV ls ds q vl vd K w) (hk:KS G w w') (hs:∀ x,x < w.heap.size->K x=101->K' x=101/\¬ G x):AllV ls ds q vl vd K' w':=by
 obtain⟨h1,h2,h3,h4,h5,h6,h7,h8,h9⟩:=h
 exact⟨hk.at_ h1 (hs q (blk_lt h1) h7).2,h2.ks hk (fun x hx=>(hs x (h2.lt x hx) (h8 x hx)).2),h3.ks hk (fun x hx=>(hs x (h3.lt x hx) (h9 x hx)).2),h4,h5,h6,(hs q (blk_lt h1) h7).1,fun x hx=>(hs x (h2.lt x hx) (h8 x hx)).1,fun x hx=>(hs x (h3.lt x hx) (h9 x hx)).1⟩
theorem AllK.keep (h:AllK ls ds q K w) (hk:KS G w w') (hs:∀ x,x < w.heap.size->K x=101->K' x=101/\¬ G x):AllK ls ds q K' w':=by
 obtain⟨vl,vd,h⟩:=h
 exact⟨vl,vd,h.keep hk hs⟩
theorem AllV.setL (h:AllV ls ds q vl vd K w) (hk:KS G w w1) (hG:∀ x,x < w.heap.size->K x=101->(G x->x∈foot vl)/\K' x=101) {v':Value} {ls':List Let} (hO:OwnE letE v' ls' w1)
  (hf:∀ x∈foot v',K' x=101/\(x∈foot vl∨w.heap.size≤x)):AllV ls' ds q v' vd K' (w1.setCell ⟨q,0,none⟩ v'):=by
 obtain⟨h1,h2,h3,h4,h5,h6,h7,h8,h9⟩:=h
 have hq:=blk_lt h1
 have gq:=hG q hq h7
 have hqv:q∉foot v':=fun hx=>by
  rcases(hf q hx).2 with h | h
  ·exact h4 h
  ·omega
 have hk2:=KS.set (KS.refl (fun x=>x=q) w1) (.inl rfl) 0 v' (g:=q)
 refine⟨(blk_set (hk.at_ h1 (fun e=>h4 (gq.1 e))) 0 v').trans (by simp),hO.ks hk2 (fun x hx e=>hqv (e ▸ hx)),(h3.ks hk (fun x hx e=>h6 x ((hG x (h3.lt x hx) (h9 x hx)).1 e) hx)).ks hk2 (fun x hx e=>h5 (e ▸ hx)),hqv,h5,fun x hx hd=>?_,gq.2,fun x hx=>(hf x hx).1,fun x hx=>(hG x (h3.lt x hx) (h9 x hx)).2⟩
 rcases(hf x hx).2 with h | h
 ·exact h6 x h hd
 ·have:=h3.lt x hd;omega
theorem AllV.setD (h:AllV ls ds q vl vd K w) (hk:KS G w w1) (hG:∀ x,x < w.heap.size->K x=101->(G x->x∈foot vd)/\K' x=101) {v':Value} {ds':List S.Done} (hO:OwnE doneE v' ds' w1)
  (hf:∀ x∈foot v',K' x=101/\(x∈foot vd∨w.heap.size≤x)):AllV ls ds' q vl v' K' (w1.setCell ⟨q,1,none⟩ v'):=by
 obtain⟨h1,h2,h3,h4,h5,h6,h7,h8,h9⟩:=h
 have hq:=blk_lt h1
 have gq:=hG q hq h7
 have hqv:q∉foot v':=fun hx=>by
  rcases(hf q hx).2 with h | h
  ·exact h5 h
  ·omega
 have hk2:=KS.set (KS.refl (fun x=>x=q) w1) (.inl rfl) 1 v' (g:=q)
 refine⟨(blk_set (hk.at_ h1 (fun e=>h5 (gq.1 e))) 1 v').trans (by simp),(h2.ks hk (fun x hx e=>h6 x hx ((hG x (h2.lt x hx) (h8 x hx)).1 e))).ks hk2 (fun x hx e=>h4 (e ▸ hx)),hO.ks hk2 (fun x hx e=>hqv (e ▸ hx)),h4,hqv,fun x hx hd=>?_,gq.2,fun x hx=>(hG x (h2.lt x hx) (h8 x hx)).2,fun x hx=>(hf x hx).1⟩
 rcases(hf x hd).2 with h | h
 ·exact h6 x hx h
 ·have:=h2.lt x hx;omega
end
def WA (c:Cfg) (s:S.World) (b:Nat) (p:WPt) (ls:List Let) (ds:List S.Done) (q:Nat) (K:Nat->Nat) (w:Go.World):Prop:=WldK c s b p K w/\AllK ls ds q K w
section
variable {c:Cfg} {s s':S.World} {b q:Nat} {p:WPt} {K K':Nat->Nat} {w w' w1:Go.World} {G:Set_} {ls:List Let} {ds:List S.Done} {vl vd:Value}
theorem WA.keep (h:WA c s b p ls ds q K w) (hk:KS G w w') (hs:∀ x,x < w.heap.size->K x≤101->K' x=K x/\¬ G x):WA c s b p ls ds q K' w' :=
 ⟨h.1.keep hk (fun x hx h=>hs x hx (by omega)),h.2.keep hk (fun x hx h=>by have:=hs x hx (by omega);exact⟨this.1.trans h,this.2⟩)⟩
theorem WA.below (h:WA c s b p ls ds q K w) (hb:Below w.heap.size w w'):WA c s b p ls ds q (rec_ K w 200) w':=h.keep (KS.below (fun _=>False) hb) (fun x hx _=>⟨rec_old hx,id⟩)
def WP (v:Value) (c:Cfg) (s:S.World) (b:Nat) (p:WPt) (ls:List Let) (ds:List S.Done) (q:Nat) (K:Nat->Nat) (w:Go.World) (e:Ending) (w':Go.World):Prop:=e=.returned v/\∃ K',(∀ x,x < w.heap.size->K' x=K x)/\WA c s b p ls ds q K' w'/\KS (fun x=>K x≤101) w w'
def NAt (v:Value->Value->Value) (c:Cfg) (n:S.Node) (o:S.Out) (b:Nat) (F:Set_) (w:Go.World) (e:Ending) (w':Go.World):Prop :=
 ∃ A1 c1 A2 c2 G,e=.returned (v (.slice A1 o.letters.length c1) (.slice A2 o.done.length c2))/\NodeAt c n b G w'/\(∀ x,x < w.heap.size->G x->F x)/\OwnE letE (.slice A1 o.letters.length c1) o.letters w'/\OwnE doneE (.slice A2 o.done.length c2) o.done w'/\(∀ x∈foot (.slice A1 o.letters.length c1),w.heap.size≤x/\¬ G x)/\(∀ x∈foot (.slice A2 o.done.length c2),w.heap.size≤x/\¬ G x)/\KS F w w'
theorem NodeAt.opened {n:S.Node} {F:Set_} (h:NodeAt c n b F w):∃ (P:NPtr) (K:Nat->Nat),P.b=b/\NodeK c n P K w/\(∀ x,x < w.heap.size->K x≤5->F x)/\∀ x,x < w.heap.size->K x≠6:=by
 obtain⟨P,K,h1,h2,h3⟩:=h
 refine⟨P,fun x=>if K x≤5 then K x else 7,h1,h2.keep (KS.refl (fun _=>False) w) (fun x _ h5=>⟨if_pos h5,id⟩),fun x hx h5=>?_,fun x hx=>?_⟩
 ·by_cases q:K x≤5
  ·exact h3 x hx q
  ·simp only[if_neg q] at h5;omega
 ·by_cases q:K x≤5
  ·simp only[if_pos q];omega
  ·simp only[if_neg q];omega
theorem NRes.at_ {v:Value->Value->Value} {n:S.Node} {o:S.Out} {P:NPtr} {F:Set_} {e:Ending} (hF:∀ x,x < w.heap.size->K x≤5->F x) (h:NRes v c n o P K w e w'):NAt v c n o P.b F w e w':=by
 obtain⟨vl,vd,K',he,hK,hN,h1,h2,h3,h4,h5⟩:=h
 obtain⟨A1,c1,rfl,-⟩:=h1.row
 obtain⟨A2,c2,rfl,-⟩:=h2.row
 exact⟨A1,c1,A2,c2,fun x=>K' x≤5,he,⟨P,K',rfl,hN,fun x _ h=>h⟩,fun x hx hG=>hF x hx (by rw[<- hK x hx];exact hG),h1,h2,fun x hx=>⟨(h3 x hx).1,by have:=(h3 x hx).2;omega⟩,fun x hx=>⟨(h4 x hx).1,by have:=(h4 x hx).2;omega⟩,h5.mono (fun x hx h=>hF x hx h)⟩
theorem nodeIssue_at {n:S.Node} {F:Set_} (h:NodeAt c n b F w) (op:S.Op) (d:Drw):Calls Tryz.prog 54 #[.pointer (some ⟨b,0,none⟩),opV op,drwV d] w (NAt (fun a b=>.tuple #[.agg #[a,b],.bool (n.issue c op d).2.2]) c (n.issue c op d).1 (n.issue c op d).2.1 b F w):=by
 obtain⟨P,K,rfl,hN,hF,h6⟩:=h.opened
 exact(nodeIssue_any hN h6 op d).mono fun e w' h=>NRes.at_ hF h
theorem nodeTake_at {n:S.Node} {F:Set_} (h:NodeAt c n b F w) (l:Let) (d:Drw):Calls Tryz.prog 60 #[.pointer (some ⟨b,0,none⟩),letV l,drwV d] w (NAt (fun a b=>.agg #[a,b]) c (n.take c l d).1 (n.take c l d).2 b F w):=by
 obtain⟨P,K,rfl,hN,hF,h6⟩:=h.opened
 exact(nodeTake_any hN h6 l d).mono fun e w' h=>NRes.at_ hF h
theorem nodeTick_at {n:S.Node} {F:Set_} (h:NodeAt c n b F w) (hw0:0≤c.wait) (hw1:c.wait≤64) (d:Drw):Calls Tryz.prog 64 #[.pointer (some ⟨b,0,none⟩),drwV d] w (NAt (fun a b=>.agg #[a,b]) c (n.tick c d).1 (n.tick c d).2 b F w):=by
 obtain⟨P,K,rfl,hN,hF,h6⟩:=h.opened
 exact(nodeTick_any hN h6 hw0 hw1 d).mono fun e w' h=>NRes.at_ hF h
def HAt (c:Cfg) (h:S.Home) (ls:List Let) (b:Nat) (F:Set_) (w:Go.World) (e:Ending) (w':Go.World):Prop :=
 ∃ A1 c1 G,e=.returned (.slice A1 ls.length c1)/\HomeAt c h b G w'/\(∀ x,x < w.heap.size->G x->F x)/\OwnE letE (.slice A1 ls.length c1) ls w'/\(∀ x∈foot (.slice A1 ls.length c1),w.heap.size≤x/\¬ G x)/\KS F w w'
theorem homeTake_at {h:S.Home} {F:Set_} (hH:HomeAt c h b F w) (hql:∀ r∈h.queue.rows,r.queue.length≤1000000) (l:Let) (d:Drw):Calls Tryz.prog 58 #[.pointer (some ⟨b,0,none⟩),letV l,drwV d] w (HAt c (h.take c l d).1 (h.take c l d).2 b F w):=by
 obtain⟨bm,bq,K,hK,hF⟩:=hH
 refine(homeTake_any hK hql l d).mono ?_
 rintro e w' ⟨v,K',he,hK1,hN,hO,hf,hk⟩
 obtain⟨A1,c1,rfl,-⟩:=hO.row
 exact⟨A1,c1,fun x=>K' x≤2,he,⟨bm,bq,K',hN,fun x _ h=>h⟩,fun x hx hG=>hF x hx (by rw[<- hK1 x hx];exact hG),hO,fun x hx=>⟨(hf x hx).1,by have:=(hf x hx).2;omega⟩,hk.mono (fun x hx h=>hF x hx h)⟩
open Classical in
noncomputable def recG (K:Nat->Nat) (w:Go.World) (G:Set_) (k:Nat):Nat->Nat:=fun x=>if x < w.heap.size then K x else if G x then k else 200
theorem recG_old {x k:Nat} (h:x < w.heap.size):recG K w G k x=K x:=if_pos h
theorem recG_in {x k:Nat} (h:w.heap.size≤x) (hG:G x):recG K w G k x=k:=by unfold recG;rw[if_neg (by omega),if_pos hG]
theorem recG_out {x k:Nat} (h:w.heap.size≤x) (hG:¬ G x):recG K w G k x=200:=by unfold recG;rw[if_neg (by omega),if_neg hG]
theorem recG_has {x k:Nat} (hx:G x) (hG:x < w.heap.size->K x=k):recG K w G k x=k:=by
 by_cases h:x < w.heap.size
 ·rw[recG_old h];exact hG h
 ·exact recG_in (by omega) hx
theorem WA.node {i:Nat} {n':S.Node} (h:WA c s b p ls ds q K w) (hi:i < p.ns.length) (hN:NodeAt c n' (p.ns.getD i 0) G w') (hG:∀ x,x < w.heap.size->G x->K x=4+i) (hk:KS (fun x=>K x=4+i) w w') :
  WA c { s with nodes:=s.nodes.set i n' } b p ls ds q (recG K w G (4+i)) w':=by
 have hlen:=h.1.2.2.2.2.2.2.1
 have h64:=h.1.2.2.2.2.2.2.2.1
 refine⟨h.1.turn hk (fun x hx=>recG_old hx) (by omega) ⟨rfl,rfl⟩ (by simp) (.inr ⟨by omega,rfl⟩) (.inr ⟨by omega,rfl⟩) (fun j hj=>?_),h.2.keep hk (fun x hx h=>⟨(recG_old hx).trans h,by show ¬ K x=_;omega⟩)⟩
 by_cases e:j=i
 ·subst e
  refine .inl ?_
  have:(s.nodes.set j n').getD j (S.Node.new j)=n':=by rw[getD_set,if_pos ⟨rfl,by omega⟩]
  show NodeAt c ((s.nodes.set j n').getD j (S.Node.new j)) _ _ _
  rw[this]
  exact hN.keep (KS.refl (fun _=>False) _) (fun x _ hx=>⟨recG_has hx (fun h=>hG x h hx),id⟩)
 ·refine .inr ⟨by omega,?_⟩
  show(s.nodes.set i n').getD j (S.Node.new j)=_
  rw[getD_set,if_neg (fun q=>e q.1.symm)]
theorem WA.home {h':S.Home} (h:WA c s b p ls ds q K w) (hN:HomeAt c h' p.h G w') (hG:∀ x,x < w.heap.size->G x->K x=2) (hk:KS (fun x=>K x=2) w w') :
  WA c { s with home:=h' } b p ls ds q (recG K w G 2) w' :=
 ⟨h.1.turn hk (fun x hx=>recG_old hx) (by omega) ⟨rfl,rfl⟩ rfl (.inl (hN.keep (KS.refl (fun _=>False) _) (fun x _ hx=>⟨recG_has hx (fun h=>hG x h hx),id⟩))) (.inr ⟨by omega,rfl⟩) (fun j hj=>.inr ⟨by omega,rfl⟩),h.2.keep hk (fun x hx h=>⟨(recG_old hx).trans h,by show ¬ K x=_;omega⟩)⟩
theorem WA.net {xs:List Let} (h:WA c s b p ls ds q K w) (hN:NetAt c.cap xs p.y (gr (fun x=>K x=3) w) w') (hk:KS (fun x=>K x=3) w w') :
  WA c { s with way:=xs } b p ls ds q (rec_ K w 3) w' :=
 ⟨h.1.turn hk (fun x hx=>rec_old hx) (by omega) ⟨rfl,rfl⟩ rfl (.inr ⟨by omega,rfl⟩) (.inl (hN.keep (KS.refl (fun _=>False) _) (fun x _ hx=>⟨by
  show rec_ K w 3 x=3
  rcases hx with hx | hx
  ·by_cases hl:x < w.heap.size
   ·rw[rec_old hl];exact hx
   ·exact rec_new (by omega)
  ·exact rec_new hx,id⟩))) (fun j hj=>.inr ⟨by omega,rfl⟩),h.2.keep hk (fun x hx h=>⟨(rec_old hx).trans h,by show ¬ K x=_;omega⟩)⟩
theorem WldK.num (h:WldK c s b p K w) (i:Nat) (u:Value) (st tk:Int) (hu:(wldC c s p).setIfInBounds i u=wldC c { s with steps:=st,ticks:=tk } p):WldK c { s with steps:=st,ticks:=tk } b p K (w.setCell ⟨b,i,none⟩ u):=by
 obtain⟨h1,h2,h3,h4,h5,h6,h7,h8,h9⟩:=h
 have hk:=KS.set (KS.refl (fun x=>x=b) w) (.inl rfl) i u (g:=b)
 have ne:∀ {x k:Nat},K x=k->k≠0->¬ x=b:=fun e1 e2 e3=>e2 (by rw[e3,h2] at e1;exact e1.symm)
 exact⟨hu ▸ blk_set h1 i u,h2,h3.ks hk (fun x hx=>ne (h4 x hx) (by omega)),h4,h5.keep hk (fun x hx hF=>⟨hF,ne hF (by omega)⟩),h6.keep hk (fun x hx hF=>⟨hF,ne hF (by omega)⟩),h7,h8,fun i hi=>(h9 i hi).keep hk (fun x hx hF=>⟨hF,ne hF (by omega)⟩)⟩
theorem WA.num (h:WA c s b p ls ds q K w) (i:Nat) (u:Value) (st tk:Int) (hu:(wldC c s p).setIfInBounds i u=wldC c { s with steps:=st,ticks:=tk } p):WA c { s with steps:=st,ticks:=tk } b p ls ds q K (w.setCell ⟨b,i,none⟩ u) :=
 ⟨h.1.num i u st tk hu,h.2.keep (KS.set (KS.refl (fun x=>x=b) w) (.inl rfl) i u (g:=b)) (fun x hx e=>⟨e,fun e2=>by rw[e2,h.1.2.1] at e;omega⟩)⟩
theorem WldK.cells (h:WldK c s b p K w):w.cell? ⟨b,0,none⟩=some (.int .i64 c.nodes)/\w.cell? ⟨b,1,none⟩=some (.int .i64 c.blocks)/\w.cell? ⟨b,2,none⟩=some (.int .i64 c.tokens)/\w.cell? ⟨b,3,none⟩=some (.int .i64 c.sets)/\w.cell? ⟨b,4,none⟩=some (.int .i64 c.ways)/\w.cell? ⟨b,5,none⟩=some (.int .i64 c.cap)/\w.cell? ⟨b,6,none⟩=some (.int .i64 c.wait)/\w.cell? ⟨b,7,none⟩=some (.int .i64 c.tries)/\w.cell? ⟨b,8,none⟩=some (.int .i64 c.policy)/\w.cell? ⟨b,9,none⟩=some (.int .i64 s.steps)/\w.cell? ⟨b,10,none⟩=some (.int .i64 s.ticks)/\w.cell? ⟨b,11,none⟩=some (.slice p.A p.ns.length p.cp)/\w.cell? ⟨b,12,none⟩=some (.pointer (some ⟨p.h,0,none⟩))/\w.cell? ⟨b,13,none⟩=some (.pointer (some ⟨p.y,0,none⟩)):=⟨cw h.1 0,cw h.1 1,cw h.1 2,cw h.1 3,cw h.1 4,cw h.1 5,cw h.1 6,cw h.1 7,cw h.1 8,cw h.1 9,cw h.1 10,cw h.1 11,cw h.1 12,cw h.1 13⟩
theorem WldK.ptr (h:WldK c s b p K w) {i:Nat} (hi:i < p.ns.length):∃ g,p.A=some ⟨g,0,none⟩/\w.cell? ⟨g,i,none⟩=some (.pointer (some ⟨p.ns.getD i 0,0,none⟩)):=by
 obtain⟨g,cap,e,_,_,_,hc⟩:=own_some h.2.2.1 (i:=i) (by simpa using hi)
 unfold WPt.v at e
 injection e with e1 e2 e3
 refine⟨g,e1,?_⟩
 have:=hc 0 (by decide)
 simpa [ptrE,List.getD,hi] using this
end
theorem draws_any (k a b c d:Int) (w:Go.World):Calls Tryz.prog 59 #[.agg #[.int .i64 k,.int .i64 a,.int .i64 b,.int .i64 c,.int .i64 d]] w (RV (drwV ⟨b,c,d⟩) w):=by
 go_enter Tryz.func59,Tryz.ntmps59
 go_wp2
 exact bodyPost_ret (v:=drwV ⟨b,c,d⟩) (by simp[results,Tryz.results59,go_sem,drwV]) rfl ⟨rfl,by repeat (first | with_reducible exact Below.refl _ _ | with_reducible apply below_alloc | with_reducible refine Below.setCell ?_ (by dsimp only;omega) _)⟩
theorem add_aux {ls ls2:List Let} {ds ds2:List S.Done} {q:Nat} {A1 A2 B1 B2:Option Addr} {n1 c1 n2 c2 m1 e1 m2 e2:Nat} {K:Nat->Nat} {w:Go.World} (hA:AllV ls ds q (.slice A1 n1 c1) (.slice A2 n2 c2) K w) (h1:OwnE letE (.slice B1 m1 e1) ls2 w) (h2:OwnE doneE (.slice B2 m2 e2) ds2 w) (hf2:∀ x∈foot (.slice B2 m2 e2),K x≠101)
  (hl:ls.length+ls2.length≤1000000000000) (hd:ds.length+ds2.length≤1000000000000):Calls Tryz.prog 56 #[.pointer (some ⟨q,0,none⟩),.agg #[.slice B1 m1 e1,.slice B2 m2 e2]] w (fun e w'=>e=.returned (.tuple #[])/\AllK (ls ++ ls2) (ds ++ ds2) q (rec_ K w 101) w'/\KS (fun x=>K x=101) w w'):=by
 have hlt1:=hA.2.1.lt
 have hlt2:=hA.2.2.1.lt
 have hq:=blk_lt hA.1
 have HA:=AS hA
 have hm1:m1=ls2.length:=by obtain⟨A,c,e,-⟩:=h1.row;injection e
 have hm2:m2=ds2.length:=by obtain⟨A,c,e,-⟩:=h2.row;injection e
 subst hm1 hm2
 have BX:=AS (blk_new w (.cells #[.slice B1 ls2.length e1,.slice B2 ds2.length e2] 138))
 have BE:=AS (below_alloc (Below.refl w.heap.size w) (.cells #[.slice B1 ls2.length e1,.slice B2 ds2.length e2] 138))
 have SZ:=AS (sz_alloc w (.cells #[.slice B1 ls2.length e1,.slice B2 ds2.length e2] 138))
 have O2:=AS h2
 have R1:=AS (show ∀ X,Below w.heap.size w X->RowE letE X B1 ls2 from fun X hb=>by
  obtain⟨A,c,e,hr,-⟩:=h1.row
  injection e with e1 e2 e3
  subst e1
  exact hr.below hb)
 have HL:=AS (And.intro hl hd)
 have HF:=AS hf2
 clear hA h1 h2 hl hd hf2
 go_enter Tryz.func56,Tryz.ntmps56
 go_upto_region 1 with fail
 generalize w.alloc (.cells #[.slice B1 ls2.length e1,.slice B2 ds2.length e2] 138)=W at BX BE SZ ⊢
 have HAW:=AS (HA.out.keep (K':=rec_ K w 101) (KS.below (fun _=>False) BE.out) (fun x hx h=>⟨by rw[rec_old hx];exact h,id⟩))
 have c0:=cw HAW.out.1 0 (v:=.slice A1 n1 c1)
 have z0:=blk_frozen HAW.out.1 0
 have d0:=cw BX.out 0 (v:=.slice B1 ls2.length e1)
 have c0':W.drew.cell? ⟨q,0,none⟩=some (.slice A1 n1 c1):=c0
 have z0':W.drew.frozen? ⟨q,0,none⟩=false:=z0
 have d0':W.drew.cell? ⟨w.heap.size,0,none⟩=some (.slice B1 ls2.length e1):=d0
 go_cut [] (fun wx=>∃ A1' n1' c1',AllV (ls ++ ls2) ds q (.slice A1' n1' c1') (.slice A2 n2 c2) (rec_ K w 101) wx/\KS (fun x=>x=q∨x∈foot (.slice A1 n1 c1)) W wx)
 case first =>
  have OA:=AS (show OwnE letE (.slice A1 n1 c1) ls W.drew from HAW.out.2.1)
  have RA:=AS (show RowE letE W.drew B1 ls2 from R1.out W.drew (Below.drew BE.out))
  go_region_law (first | (refine step_appE (E:=letE) (xs:=ls) (ys:=ls2) (by kernel_rfl) _ _ rfl rfl rfl rfl (by exact OA.out) (by exact RA.out) (by have:=HL.out.1;show _ * 80≤_;omega) ?_;intro v1 w1 hO hK hf;have KK:=AS (show KS (fun x=>x∈foot (.slice A1 n1 c1)) W w1 from KS.keeps hK);have OO:=AS hO;have FF:=AS (show ∀ x∈foot v1,x∈foot (.slice A1 n1 c1)∨W.heap.size≤x from by intro x hx;rcases hf with e | e;exact .inl (by rw[e] at hx;exact hx);exact .inr (by rw[e] at hx;simp only[List.mem_singleton,sz_drew] at hx;omega));obtain⟨A3,n3,k3,rfl⟩:∃ A n c,v1=.slice A n c:=(by obtain⟨A,c,h,_⟩:=OwnE.row hO;exact⟨_,_,_,h⟩);clear hO hK hf;have Y1:=AS (KK.out.at_ HAW.out.1 HAW.out.2.2.2.1);have y2:=blk_frozen Y1.out 0;have y3:w1.cell? ⟨q,0,none⟩=some (.slice A1 n1 c1):=cw Y1.out 0))
  all_goals
   go_wp2_with fail
   go_meet
   have hs:=SZ.out
   refine⟨_,_,_,HAW.out.setL KK.out (fun x hx h=>⟨fun h=>h,h⟩) OO.out (fun x hx=>⟨?_,FF.out x hx⟩),(KK.out.mono (fun x _ h=>.inr h)).set (.inl (.inl rfl)) 0 _⟩
   rcases FF.out x hx with h | h
   ·rw[rec_old (hlt1 x h)];exact HA.out.2.2.2.2.2.2.2.1 x h
   ·exact rec_new (by omega)
 case rest =>
  obtain⟨A1',n1',c1',hV,hk⟩:=hcut
  have HV:=AS hV
  have HK:=AS hk
  clear c0 z0 d0 c0' z0' d0' hV hk
  have hsz:=SZ.out
  have c1_:=cw HV.out.1 1 (v:=.slice A2 n2 c2)
  have z1:=blk_frozen HV.out.1 1
  have BW:=AS (HK.out.at_ BX.out (fun e=>by
   rcases e with e | e
   ·omega
   ·have:=hlt1 _ e;omega))
  have d1:=cw BW.out 1 (v:=.slice B2 ds2.length e2)
  have hfar:∀ x∈foot (.slice B2 ds2.length e2),x≠q/\x∉foot (.slice A1 n1 c1):=fun x hx=>⟨fun e=>HF.out x hx (by rw[e];exact HA.out.2.2.2.2.2.2.1),fun h=>HF.out x hx (HA.out.2.2.2.2.2.2.2.1 x h)⟩
  have O2W:=AS (show OwnE doneE (.slice B2 ds2.length e2) ds2 wc.drew from(O2.out.ks (KS.below (fun _=>False) BE.out) (fun _ _=>id)).ks HK.out (fun x hx h=>by
   rcases h with h | h
   ·exact(hfar x hx).1 h
   ·exact(hfar x hx).2 h))
  clear hfar
  have c1':wc.drew.cell? ⟨q,1,none⟩=some (.slice A2 n2 c2):=c1_
  have z1':wc.drew.frozen? ⟨q,1,none⟩=false:=z1
  have d1':wc.drew.cell? ⟨w.heap.size,1,none⟩=some (.slice B2 ds2.length e2):=d1
  go_upto_region 2 with fail
  have OA:=AS (show OwnE doneE (.slice A2 n2 c2) ds wc.drew from HV.out.2.2.1)
  have RA:=AS (show RowE doneE wc.drew B2 ds2 from by
   obtain⟨A,c,e,hr,-⟩:=O2W.out.row
   injection e with e1 e2 e3
   subst e1
   exact hr)
  have hlt2':=HV.out.2.2.1.lt
  go_region_law (first | (refine step_appE (E:=doneE) (xs:=ds) (ys:=ds2) (by kernel_rfl) _ _ rfl rfl rfl rfl (by exact OA.out) (by exact RA.out) (by have:=HL.out.2;show _ * 56≤_;omega) ?_;intro v1 w1 hO hK hf;have KK:=AS (show KS (fun x=>x∈foot (.slice A2 n2 c2)) wc w1 from KS.keeps hK);have OO:=AS hO;have FF:=AS (show ∀ x∈foot v1,x∈foot (.slice A2 n2 c2)∨wc.heap.size≤x from by intro x hx;rcases hf with e | e;exact .inl (by rw[e] at hx;exact hx);exact .inr (by rw[e] at hx;simp only[List.mem_singleton,sz_drew] at hx;omega));obtain⟨A3,n3,k3,rfl⟩:∃ A n c,v1=.slice A n c:=(by obtain⟨A,c,h,_⟩:=OwnE.row hO;exact⟨_,_,_,h⟩);clear hO hK hf;have Y1:=AS (KK.out.at_ HV.out.1 HV.out.2.2.2.2.1);have y2:=blk_frozen Y1.out 1;have y3:w1.cell? ⟨q,1,none⟩=some (.slice A2 n2 c2):=cw Y1.out 1))
  all_goals
   go_wp2
   go_end0
   have hs2:=HK.out.size
   refine⟨rfl,⟨_,_,HV.out.setD KK.out (fun x hx h=>⟨fun h=>h,h⟩) OO.out (fun x hx=>⟨?_,FF.out x hx⟩)⟩,?_⟩
   ·rcases FF.out x hx with h | h
    ·rw[rec_old (hlt2 x h)];exact HA.out.2.2.2.2.2.2.2.2 x h
    ·exact rec_new (by omega)
   ·have hV:=HA.out
    have hk1:KS (fun x=>K x=101) w wc:=(KS.below _ BE.out).trans HK.out (fun x _ h=>by
     rcases h with h | h
     ·show K x=101;rw[h];exact hV.2.2.2.2.2.2.1
     ·exact hV.2.2.2.2.2.2.2.1 x h)
    refine(hk1.trans KK.out (fun x hx h=>hV.2.2.2.2.2.2.2.2 x h)).set (.inl (show K q=101 from hV.2.2.2.2.2.2.1)) 1 _
theorem add_any {ls ls2:List Let} {ds ds2:List S.Done} {q:Nat} {B1 B2:Option Addr} {m1 e1 m2 e2:Nat} {K:Nat->Nat} {w:Go.World} (hA:AllK ls ds q K w) (h1:OwnE letE (.slice B1 m1 e1) ls2 w) (h2:OwnE doneE (.slice B2 m2 e2) ds2 w) (hf2:∀ x∈foot (.slice B2 m2 e2),K x≠101)
  (hl:ls.length+ls2.length≤1000000000000) (hd:ds.length+ds2.length≤1000000000000):Calls Tryz.prog 56 #[.pointer (some ⟨q,0,none⟩),.agg #[.slice B1 m1 e1,.slice B2 m2 e2]] w (fun e w'=>e=.returned (.tuple #[])/\AllK (ls ++ ls2) (ds ++ ds2) q (rec_ K w 101) w'/\KS (fun x=>K x=101) w w'):=by
 obtain⟨vl,vd,hV⟩:=hA
 obtain⟨A1,c1,rfl,-⟩:=hV.2.1.row
 obtain⟨A2,c2,rfl,-⟩:=hV.2.2.1.row
 exact add_aux hV h1 h2 hf2 hl hd
theorem WA.add {c:Cfg} {s:S.World} {b:Nat} {p:WPt} {ls ls2:List Let} {ds ds2:List S.Done} {q:Nat} {B1 B2:Option Addr} {m1 e1 m2 e2:Nat} {K:Nat->Nat} {w:Go.World} (hW:WA c s b p ls ds q K w) (h1:OwnE letE (.slice B1 m1 e1) ls2 w) (h2:OwnE doneE (.slice B2 m2 e2) ds2 w) (hf2:∀ x∈foot (.slice B2 m2 e2),K x≠101)
  (hl:ls.length+ls2.length≤1000000000000) (hd:ds.length+ds2.length≤1000000000000):Calls Tryz.prog 56 #[.pointer (some ⟨q,0,none⟩),.agg #[.slice B1 m1 e1,.slice B2 m2 e2]] w (WP (.tuple #[]) c s b p (ls ++ ls2) (ds ++ ds2) q K w):=by
 refine(add_any hW.2 h1 h2 hf2 hl hd).mono ?_
 rintro e w' ⟨he,hA,hk⟩
 exact⟨he,rec_ K w 101,fun x hx=>rec_old hx,⟨hW.1.keep hk (fun x hx h=>⟨rec_old hx,by show ¬ K x=101;omega⟩),hA⟩,hk.mono (fun x _ h=>by have h':K x=101:=h;show K x≤101;omega)⟩
end Go.Proofs.YtiebppkhaiofeaaGreat.K
