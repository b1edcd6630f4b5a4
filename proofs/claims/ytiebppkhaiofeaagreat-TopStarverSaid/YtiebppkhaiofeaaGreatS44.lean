/- Part of the proof of TopStarver: what functions of the program do. -/
import Derived.Test.YtiebppkhaiofeaaGreatS43
set_option maxHeartbeats 4000000
set_option maxRecDepth 100000
set_option linter.unusedVariables false
set_option linter.unusedSimpArgs false
namespace Go.Proofs.YtiebppkhaiofeaaGreat.K
open Go.RowKit Go.Proofs.YtiebppkhaiofeaaGreatW.PrintWords Go.Proofs.YtiebppkhaiofeaaGreat.S
attribute [local go_sem] World.cell?_alloc_some
open Go.ChangeMaps Go.MapKept
def lenOf:Value->Nat
 | .slice _ n _=>n
 | _=>0
def settleN (c:Cfg) (d:Drw):Nat->S.World->List Ent->S.World×List Ent×Bool
 | 0,s,out=>(s,out,!(nextS s d).2)
 | n+1,s,out=>if (nextS s d).2=false then (s,out,true) else if (s.step c (nextS s d).1).2.1=2 then ((s.step c (nextS s d).1).1,out ++ [(nextS s d).1],false) else settleN c d n (s.step c (nextS s d).1).1 (out ++ [(nextS s d).1])
structure SetI (c:Cfg) (s:S.World) (b:Nat) (out:List Ent) (A:Option Addr) (cp:Nat) (F0:Set_) (w0:Go.World) (F:Set_) (w:Go.World):Prop where
 wld:WldAt c s b F w
 own:OwnE entE (.slice A out.length cp) out w
 far:∀ x∈foot (.slice A out.length cp),¬ F x/\w0.heap.size < x
 old:∀ x,x < w0.heap.size->F x->F0 x
 box:¬ F w0.heap.size
 top:∀ x,w.heap.size≤x->¬ F x
 ks:KS F0 w0 w
 big:w0.heap.size < w.heap.size
section
variable {c:Cfg} {s s':S.World} {b:Nat} {out:List Ent} {A A':Option Addr} {cp cp':Nat} {F0 F:Set_} {w0 w w' w3:Go.World}
theorem SetI.below (h:SetI c s b out A cp F0 w0 F w) (hb:Below w.heap.size w w'):SetI c s b out A cp F0 w0 F w' :=
 ⟨h.wld.keep (KS.below (fun _=>False) hb) (fun x _ hx=>⟨hx,id⟩),h.own.ks (KS.below (fun _=>False) hb) (fun _ _=>id),h.far,h.old,h.box,fun x hx=>h.top x (Nat.le_trans hb.size hx),h.ks.andBelow hb,Nat.lt_of_lt_of_le h.big hb.size⟩
theorem SetI.step (h:SetI c s b out A cp F0 w0 F w) (hW:WldAt c s' b (gr F w) w') (hk:KS F w w'):SetI c s' b out A cp F0 w0 (fun x=>F x∨(w.heap.size≤x/\x < w'.heap.size)) w':=by
 have hz:=h.ks.size
 have hz2:=hk.size
 refine⟨hW.keep (KS.refl (fun _=>False) _) (fun x hx h=>⟨h.imp id (fun e=>⟨e,hx⟩),id⟩),h.own.ks hk (fun x hx=>(h.far x hx).1),fun x hx=>⟨fun e=>?_,(h.far x hx).2⟩,fun x hx e=>?_,fun e=>?_,fun x hx e=>?_,h.ks.trans hk (fun x hx e=>h.old x hx e),by have:=h.big;omega⟩
 ·rcases e with e | e
  ·exact(h.far x hx).1 e
  ·have:=h.own.lt x hx;omega
 ·rcases e with e | e
  ·exact h.old x hx e
  ·omega
 ·rcases e with e | e
  ·exact h.box e
  ·have:=h.big;omega
 ·rcases e with e | e
  ·exact h.top x (by omega) e
  ·omega
theorem SetI.more {en:Ent} (h:SetI c s b out A cp F0 w0 F w) (hO:OwnE entE (.slice A' (out.length+1) cp') (out ++ [en]) w3) (hk:KS (fun x=>x∈foot (.slice A out.length cp)) w w3) (hf:∀ x∈foot (.slice A' (out.length+1) cp'),x∈foot (.slice A out.length cp)∨(w.heap.size≤x/\w0.heap.size < x)):SetI c s b (out ++ [en]) A' cp' F0 w0 F w3:=by
 have hlen:(out ++ [en]).length=out.length+1:=by simp
 refine⟨h.wld.keep hk (fun x _ hx=>⟨hx,fun e=>(h.far x e).1 hx⟩),by rw[hlen];exact hO,?_,h.old,h.box,fun x hx=>h.top x (Nat.le_trans hk.size hx),h.ks.trans hk (fun x hx e=>by have:=(h.far x e).2;omega),Nat.lt_of_lt_of_le h.big hk.size⟩
 rw[hlen]
 intro x hx
 rcases hf x hx with e | e
 ·exact h.far x e
 ·exact⟨h.top x e.1,e.2⟩
end
theorem ShotV.below {s:S.World} {Ap Ah Af:Option Addr} {np cp nh ch nf cf:Nat} {ps:List PlaceR} {B:Nat} {w w':Go.World} (h:ShotV s Ap Ah Af np cp nh ch nf cf ps B w) (hb:Below w.heap.size w w'):ShotV s Ap Ah Af np cp nh ch nf cf ps B w':=by
 obtain⟨h1,h2,h3,h4,h5,h6,h7⟩:=h
 have hk:=KS.below (fun _=>False) hb
 exact⟨h1.ks hk (fun _ _=>id),h2,h3,⟨h4.len,fun i hi=>(h4.ok i hi).ks hk (fun _ _=>id) (fun _ _=>id)⟩,h5.ks hk (fun _ _=>id),h6.ks hk (fun _ _=>id),h7⟩
theorem zblkE {Y F:Go.World} (hl:Below (Y.alloc (.cells #[.int .i64 0,.int .i64 0,.int .i64 0,.int .i64 0,.int .i64 0] 33)).heap.size (Y.alloc (.cells #[.int .i64 0,.int .i64 0,.int .i64 0,.int .i64 0,.int .i64 0] 33)) F):F.heap[Y.heap.size]?=some (.cells #[.int .i64 0,.int .i64 0,.int .i64 0,.int .i64 0,.int .i64 0] 33 (0,0)):=blk_below (blk_new Y _) hl
theorem zblkED {Y F:Go.World} (hl:Below (Y.alloc (.cells #[.int .i64 0,.int .i64 0,.int .i64 0,.int .i64 0,.int .i64 0] 33)).drew.heap.size (Y.alloc (.cells #[.int .i64 0,.int .i64 0,.int .i64 0,.int .i64 0,.int .i64 0] 33)).drew F):F.heap[Y.heap.size]?=some (.cells #[.int .i64 0,.int .i64 0,.int .i64 0,.int .i64 0,.int .i64 0] 33 (0,0)):=blk_below (blk_drew (blk_new Y _)) hl
def NxC (c:Cfg) (s:S.World) (b:Nat) (d0 d1 d2:Int) (wr:Go.World):Prop:=∀ X,Below wr.heap.size wr X->Calls Tryz.prog 10 #[.pointer (some ⟨b,0,none⟩)] X fun e w'=>∃ Ap Ah Af np cp nh ch nf cf,e=.returned (.agg #[.int .i64 s.steps,.int .i64 s.ticks,.slice Ap np cp,.slice Ah nh ch,.slice Af nf cf])/\Below X.heap.size X w'/\∀ Y,Below w'.heap.size w' Y->Calls Tryz.prog 70 #[.agg #[.int .i64 s.steps,.int .i64 s.ticks,.slice Ap np cp,.slice Ah nh ch,.slice Af nf cf],.agg #[.int .i64 d0,.int .i64 d1,.int .i64 d2]] Y (RV (.tuple #[entV (nextS s ⟨d0,d1,d2⟩).1,.bool (nextS s ⟨d0,d1,d2⟩).2]) Y)
theorem nxC {c:Cfg} {s:S.World} {b:Nat} {F:Set_} {wr:Go.World} (hc:c.check=0) (hs:WOk c s) (hW:WldAt c s b F wr) (d0 d1 d2:Int):NxC c s b d0 d1 d2 wr:=fun X hb=>by
 refine(worldShot_any (F:=F) (hW.keep (KS.below (fun _=>False) hb) (fun x _ h=>⟨h,id⟩)) hs hc).mono ?_
 rintro e w' ⟨Ap,Ah,Af,np,cp,nh,ch,nf,cf,ps,rfl,hS,hb2⟩
 have h1:=hS.2.1
 have h2:=hS.2.2.2.2.2.2.2
 subst h1 h2
 exact⟨Ap,Ah,Af,_,cp,nh,ch,_,cf,rfl,hb2,fun Y hY=>next_any (hS.below hY) d0 d1 d2⟩
theorem settle_any {c:Cfg} {s:S.World} {b:Nat} {F0:Set_} {w:Go.World} (hc:c.check=0) (hs:WOk c s) (hst:s.steps≤900000) (hW:WldAt c s b F0 w) (d0 d1 d2:Int) (R:S.World×List Ent×Bool) (hR:settleN c ⟨d0,d1,d2⟩ 65536 s []=R) :
  Calls Tryz.prog 39 #[.pointer (some ⟨b,0,none⟩),.agg #[.int .i64 d0,.int .i64 d1,.int .i64 d2]] w fun e w'=>∃ A cp F,e=.returned (.tuple #[.slice A R.2.1.length cp,.bool R.2.2])/\SetI c R.1 b R.2.1 A cp F0 w F w'/\WOk c R.1/\R.1.steps≤1000000:=by
 have HC:=AS hc
 have BX:=AS (blk_new w (.cells #[.int .i64 d0,.int .i64 d1,.int .i64 d2] 74))
 have SZ:=AS (sz_alloc w (.cells #[.int .i64 d0,.int .i64 d1,.int .i64 d2] 74))
 have R0:=AS (show ∃ s F,SetI c s b [] none 0 F0 w F (w.alloc (.cells #[.int .i64 d0,.int .i64 d1,.int .i64 d2] 74))/\(w.alloc (.cells #[.int .i64 d0,.int .i64 d1,.int .i64 d2] 74)).heap[w.heap.size]?=some (.cells #[.int .i64 d0,.int .i64 d1,.int .i64 d2] 74 (0,0))/\WOk c s/\s.steps+(65536 - ([]:List Ent).length:Nat)≤1000000/\settleN c ⟨d0,d1,d2⟩ (65536 - ([]:List Ent).length) s []=R from
  ⟨s,fun x=>F0 x/\x < w.heap.size,⟨hW.keep (KS.below (fun _=>False) (below_alloc (Below.refl _ _) _)) (fun x hx h=>⟨⟨h,hx⟩,id⟩),OwnE.nil _,fun x hx=>by simp[foot_nil] at hx,fun x _ h=>h.1,fun h=>Nat.lt_irrefl _ h.2,fun x hx h=>by have:=SZ.out;have:=h.2;omega,KS.below _ (below_alloc (Below.refl _ _) _),by have:=SZ.out;omega⟩,BX.out,hs,by simp;omega,hR⟩)
 clear hs hW hR hc hst
 go_enter Tryz.func39,Tryz.ntmps39
 go_wp2_with fail
 generalize w.alloc (.cells #[.int .i64 d0,.int .i64 d1,.int .i64 d2] 74)=W at R0 ⊢
 clear BX SZ
 go_loopw [6,7,8,9,10] (fun v6 v7 v8 v9 v10 wr=>∃ (out:List Ent) (A:Option Addr) (cp:Nat),v6=.slice A out.length cp/\out.length≤65536/\Aside0 (∃ s F,SetI c s b out A cp F0 w F wr/\wr.heap[w.heap.size]?=some (.cells #[.int .i64 d0,.int .i64 d1,.int .i64 d2] 74 (0,0))/\WOk c s/\s.steps+(65536 - out.length:Nat)≤1000000/\settleN c ⟨d0,d1,d2⟩ (65536 - out.length) s out=R)) (fun v6 _ _ _ _ _=>65537 - lenOf v6)
 case atStart=>exact⟨[],none,0,rfl,by simp,R0⟩
 case round =>
  obtain⟨out,A,cp,rfl,hle,RR⟩:=hrel
  obtain⟨s1,F,hI,hbx,hok,hst,hset⟩:=RR.out
  have NC:=AS (nxC HC.out hok hI.wld d0 d1 d2)
  have HX:=AS (And.intro hI (And.intro hbx (And.intro hok (And.intro hst hset))))
  have KEEP:=AS (show ∀ x,Below wr.heap.size wr x->(x.cell? ⟨w.heap.size,0,none⟩=some (.int .i64 d0)/\x.cell? ⟨w.heap.size,1,none⟩=some (.int .i64 d1)/\x.cell? ⟨w.heap.size,2,none⟩=some (.int .i64 d2)) from fun x hx=>by have h11:=blk_below hbx hx;exact⟨cw h11 0,cw h11 1,cw h11 2⟩)
  have ZF:=AS (show ∀ (x:Go.World) (g:Nat),x.heap[g]?=some (.cells #[.int .i64 0,.int .i64 0,.int .i64 0,.int .i64 0,.int .i64 0] 33 (0,0))->(x.cell? ⟨g,0,none⟩=some (.int .i64 0)/\x.cell? ⟨g,1,none⟩=some (.int .i64 0)/\x.cell? ⟨g,2,none⟩=some (.int .i64 0)/\x.cell? ⟨g,3,none⟩=some (.int .i64 0)/\x.cell? ⟨g,4,none⟩=some (.int .i64 0)/\x.frozen? ⟨g,0,none⟩=false/\x.frozen? ⟨g,1,none⟩=false/\x.frozen? ⟨g,2,none⟩=false/\x.frozen? ⟨g,3,none⟩=false/\x.frozen? ⟨g,4,none⟩=false) from fun x g h=>⟨cw h 0,cw h 1,cw h 2,cw h 3,cw h 4,blk_frozen h 0,blk_frozen h 1,blk_frozen h 2,blk_frozen h 3,blk_frozen h 4⟩)
  clear hI hbx hok hst hset
  unfold NxC at NC
  have ENX:=AS (show ∃ nx,nextS s1 ⟨d0,d1,d2⟩=nx from⟨_,rfl⟩)
  obtain⟨⟨⟨nk,na,nb,nc,nd⟩,nok⟩,hnx⟩:=ENX.out
  rw[hnx] at NC
  have HNX:=AS hnx
  clear hnx ENX
  obtain⟨e0_,e1_,e2_⟩:=KEEP.out wr (Below.refl _ _)
  by_cases hc1:out.length < 65536
  ·have q1:(out.length:Int) < 65536:=by omega
   go_upto_region 3 with fail
   go_region_held3 (fun x=>x.cell? ⟨w.heap.size,0,none⟩=some (.int .i64 d0)/\x.cell? ⟨w.heap.size,1,none⟩=some (.int .i64 d1)/\x.cell? ⟨w.heap.size,2,none⟩=some (.int .i64 d2)) ((refine KEEP.out _ ?_;(repeat (first | (with_reducible refine Below.setCell ?_ ?_ _;rotate_left;(focus (have z1:=H1.out.size;simp only[sz_alloc,sz_drew] at z1 ⊢;omega))) | with_reducible apply below_alloc | with_reducible apply Below.drew | with_reducible exact Below.refl _ _ | with_reducible refine bchain H2.out ?_ | with_reducible refine bchain H1.out ?_)))) ((first | (go_at_call 10;refine(NC.out _ ?_).mono ?_;(focus ((repeat (with_reducible first | apply below_alloc | apply Below.drew | exact Below.refl _ _))));rintro e w1 ⟨Ap,Ah,Af,np,cpp,nh,ch,nf,cf,rfl,hb,hN⟩;have H1:=AS hb;have N1:=AS hN;clear hb hN;have hsz:=H1.out.size;(first | rw[sz_alloc] at hsz | rw[sz_drew,sz_alloc] at hsz);clear hsz;have QF:Aside0 (w1.heap[wr.heap.size]?=some (.cells #[.int .i64 0,.int .i64 0,.int .i64 0,.int .i64 0,.int .i64 0] 33 (0,0))):=AS (zblkED (Y:=wr) (F:=w1) H1.out);obtain⟨q10_,q11_,q12_,q13_,q14_,q15_,q16_,q17_,q18_,q19_⟩:=ZF.out _ _ QF.out) | (go_at_call 10;refine(NC.out _ ?_).mono ?_;(focus ((repeat (with_reducible first | apply below_alloc | apply Below.drew | exact Below.refl _ _))));rintro e w1 ⟨Ap,Ah,Af,np,cpp,nh,ch,nf,cf,rfl,hb,hN⟩;have H1:=AS hb;have N1:=AS hN;clear hb hN) | (go_at_call 70;refine(N1.out _ ?_).mono ?_;(focus ((repeat (with_reducible first | apply below_alloc | apply Below.drew | exact Below.refl _ _))));rintro e w2 ⟨rfl,hb⟩;have H2:=AS hb;clear hb;simp only[entV];have QF:Aside0 (w2.heap[wr.heap.size]?=some (.cells #[.int .i64 0,.int .i64 0,.int .i64 0,.int .i64 0,.int .i64 0] 33 (0,0))):=AS (blk_below QF.out H2.out);obtain⟨q20_,q21_,q22_,q23_,q24_,q25_,q26_,q27_,q28_,q29_⟩:=ZF.out _ _ QF.out) | (go_at_call 70;refine(N1.out _ ?_).mono ?_;(focus ((repeat (with_reducible first | apply below_alloc | apply Below.drew | exact Below.refl _ _))));rintro e w2 ⟨rfl,hb⟩;have H2:=AS hb;clear hb;simp only[entV];have hsz:=H2.out.size;(first | rw[sz_alloc] at hsz | rw[sz_drew,sz_alloc] at hsz);clear hsz;have QF:Aside0 (w2.heap[w1.heap.size]?=some (.cells #[.int .i64 0,.int .i64 0,.int .i64 0,.int .i64 0,.int .i64 0] 33 (0,0))):=AS (zblkE (Y:=w1) (F:=w2) H2.out);obtain⟨q20_,q21_,q22_,q23_,q24_,q25_,q26_,q27_,q28_,q29_⟩:=ZF.out _ _ QF.out) | (go_at_call 70;refine(N1.out _ ?_).mono ?_;(focus ((repeat (with_reducible first | apply below_alloc | apply Below.drew | exact Below.refl _ _))));rintro e w2 ⟨rfl,hb⟩;have H2:=AS hb;clear hb;simp only[entV])))
   ·have G7:=AS (show(w2.alloc (.cells #[.int .i64 nk,.int .i64 na,.int .i64 nb,.int .i64 nc,.int .i64 nd] 33)).heap[w2.heap.size]?=some (.cells #[.int .i64 nk,.int .i64 na,.int .i64 nb,.int .i64 nc,.int .i64 nd] 33 (0,0)) from by
     apply blk_as
     ·(repeat (with_reducible first | apply blk_set | apply blk_new | exact QF.out))
     ·simp)
    have BE:=AS (show Below wr.heap.size wr (w2.alloc (.cells #[.int .i64 nk,.int .i64 na,.int .i64 nb,.int .i64 nc,.int .i64 nd] 33)) from by (repeat (first | (with_reducible refine Below.setCell ?_ ?_ _;rotate_left;(focus (have z1:=H1.out.size;simp only[sz_alloc,sz_drew] at z1 ⊢;omega))) | with_reducible apply below_alloc | with_reducible apply Below.drew | with_reducible exact Below.refl _ _ | with_reducible refine bchain H2.out ?_ | with_reducible refine bchain H1.out ?_)))
    go_upto_region 4 with fail
    generalize w2.alloc (.cells #[.int .i64 nk,.int .i64 na,.int .i64 nb,.int .i64 nc,.int .i64 nd] 33)=wc at G7 BE ⊢
    skip
    have HF7:=AS (show w2.heap.size∉foot (.slice A out.length cp) from fun e=>by have:=HX.out.1.own.lt _ e;have z1:=H1.out.size;have z2:=H2.out.size;simp only[sz_alloc,sz_drew] at z1 z2;omega)
    generalize w2.heap.size=g7 at G7 HF7 ⊢
    have HQ1:=AS hc1
    clear e0_ e1_ e2_ q1 hc1
    obtain⟨n,hn⟩:∃ n,65536 - out.length=n+1:=⟨65535 - out.length,by have:=HQ1.out;omega⟩
    have hset:=HX.out.2.2.2.2
    rw[hn] at hset
    unfold settleN at hset
    rw[HNX.out] at hset
    simp only at hset
    have HN:=AS hn
    clear hn
    cases nok with
    | false =>
     simp only[if_true] at hset
     have HSET:=AS hset
     clear hset
     go_wp2
     go_ret2
     rw[<- HSET.out]
     exact⟨A,cp,F,rfl,HX.out.1.below BE.out,HX.out.2.2.1,by have:=HX.out.2.2.2.1;show s1.steps≤_;omega⟩
    | true =>
     simp only[Bool.true_eq_false,if_false] at hset
     have HSET:=AS hset
     clear hset
     have m0_:=cw G7.out 0 (v:=.int .i64 nk)
     have m1_:=cw G7.out 1 (v:=.int .i64 na)
     have m2_:=cw G7.out 2 (v:=.int .i64 nb)
     have m3_:=cw G7.out 3 (v:=.int .i64 nc)
     have m4_:=cw G7.out 4 (v:=.int .i64 nd)
     have I5:=AS ((HX.out.1.below BE.out).below (below_alloc (Below.refl wc.heap.size wc) (.cells #[.int .i64 nk,.int .i64 na,.int .i64 nb,.int .i64 nc,.int .i64 nd] 33)))
     have OA:=AS I5.out.own
     have RA:=AS (show RowE entE (wc.alloc (.cells #[.int .i64 nk,.int .i64 na,.int .i64 nb,.int .i64 nc,.int .i64 nd] 33)) (some ⟨wc.heap.size,0,none⟩) [(⟨nk,na,nb,nc,nd⟩:Ent)] from rowE_one (E:=entE) (x:=(⟨nk,na,nb,nc,nd⟩:Ent)) (blk_new wc (.cells #[.int .i64 nk,.int .i64 na,.int .i64 nb,.int .i64 nc,.int .i64 nd] 33)))
     have FIR:=AS (show ∀ v1 w6,OwnE entE v1 (out ++ [(⟨nk,na,nb,nc,nd⟩:Ent)]) w6->Keeps (foot (.slice A out.length cp)) (wc.alloc (.cells #[.int .i64 nk,.int .i64 na,.int .i64 nb,.int .i64 nc,.int .i64 nd] 33)) w6->(foot v1=foot (.slice A out.length cp)∨foot v1=[(wc.alloc (.cells #[.int .i64 nk,.int .i64 na,.int .i64 nb,.int .i64 nc,.int .i64 nd] 33)).heap.size])->∃ A3 k3,v1=.slice A3 (out.length+1) k3/\(SetI c s1 b (out ++ [(⟨nk,na,nb,nc,nd⟩:Ent)]) A3 k3 F0 w F w6/\w6.heap[w.heap.size]?=some (.cells #[.int .i64 d0,.int .i64 d1,.int .i64 d2] 74 (0,0)))/\w6.heap[g7]?=some (.cells #[.int .i64 nk,.int .i64 na,.int .i64 nb,.int .i64 nc,.int .i64 nd] 33 (0,0)) from by
      intro v1 w6 hO hK hf
      have hk3:KS (fun x=>x∈foot (.slice A out.length cp)) (wc.alloc (.cells #[.int .i64 nk,.int .i64 na,.int .i64 nb,.int .i64 nc,.int .i64 nd] 33)) w6:=KS.keeps hK
      obtain⟨A3,k3,hv,-⟩:=hO.row
      have hv':v1=.slice A3 (out.length+1) k3:=by rw[hv];simp
      subst hv'
      have hbig:=I5.out.big
      have hown:=(HX.out.1.below BE.out).own
      refine⟨A3,k3,rfl,⟨I5.out.more hO hk3 (fun x hx=>?_),hk3.at_ (blk_alloc (blk_below HX.out.2.1 BE.out) _) (fun e=>by have:=(I5.out.far _ e).2;omega)⟩,hk3.at_ (blk_alloc G7.out _) (fun e=>HF7.out e)⟩
      rcases hf with e | e
      ·exact .inl (by rw[e] at hx;exact hx)
      ·exact .inr (by rw[e] at hx;simp only[List.mem_singleton] at hx;omega))
     go_upto_region 7 with (first | (at_builtin;refine list_appE (E:=entE) (xs:=out) (ys:=[(⟨nk,na,nb,nc,nd⟩:Ent)]) (by kernel_rfl) _ _ rfl rfl rfl rfl (by exact OA.out) (by exact RA.out) (by have h6:=HQ1.out;show _ * 40≤_;simp;omega) ?_;intro v1 w6 hO hK hf;obtain⟨A3,k3,rfl,hI6,hg6⟩:=FIR.out v1 w6 hO hK hf;have I6:=AS hI6;have n0_:w6.cell? ⟨g7,0,none⟩=some (.int .i64 nk):=cw hg6 0;have n1_:w6.cell? ⟨g7,1,none⟩=some (.int .i64 na):=cw hg6 1;have n2_:w6.cell? ⟨g7,2,none⟩=some (.int .i64 nb):=cw hg6 2;have n3_:w6.cell? ⟨g7,3,none⟩=some (.int .i64 nc):=cw hg6 3;have n4_:w6.cell? ⟨g7,4,none⟩=some (.int .i64 nd):=cw hg6 4;clear hO hK hf hI6 hg6) | fail)
     have ST:=AS (worldStep_any (e:=(⟨nk,na,nb,nc,nd⟩:Ent)) I6.out.1.wld (WOk.bounds HC.out HX.out.2.2.1 (by have:=HX.out.2.2.2.1;omega) rfl rfl rfl))
     simp only[entV] at ST
     clear m0_ m1_ m2_ m3_ m4_
     go_wp2_with fail
     refine ST.out.mono ?_
     rintro e w8 ⟨Ad,n8,cp8,rfl,hW8,-,hk8⟩
     have I8:=AS (I6.out.1.step hW8 hk8)
     have D8:=AS (hk8.at_ I6.out.2 I6.out.1.box)
     have OK8:=AS (show WOk c (s1.step c (⟨nk,na,nb,nc,nd⟩:Ent)).1/\(s1.step c (⟨nk,na,nb,nc,nd⟩:Ent)).1.steps=s1.steps+1 from⟨wok_step HC.out HX.out.2.2.1 (by have:=HX.out.2.2.2.1;omega) _,(tinv_step HC.out HX.out.2.2.1.t (by have:=HX.out.2.2.2.1;omega) _).2.2⟩)
     have hset:=HSET.out
     clear hW8 hk8 ST n0_ n1_ n2_ n3_ n4_ HSET
     generalize s1.step c (⟨nk,na,nb,nc,nd⟩:Ent)=SR at I8 OK8 hset ⊢
     obtain⟨s8,rk,dk⟩:=SR
     simp only at hset
     by_cases hrk:rk=2
     ·rw[if_pos hrk] at hset
      have HSET:=AS hset
      have hd:(rk == 2)=true:=by simp[hrk]
      have hd2:decide (rk=2)=true:=by simp[hrk]
      clear hset
      go_wp2
      go_ret2
      rw[<- HSET.out]
      refine⟨A3,k3,_,?_,I8.out,OK8.out.1,by have:=HX.out.2.2.2.1;have h9:s8.steps=s1.steps+1:=OK8.out.2;have h12:=HN.out;show s8.steps≤_;omega⟩
      simp
     ·rw[if_neg hrk] at hset
      have HSET:=AS hset
      have hd:(rk == 2)=false:=by simp[hrk]
      have hd2:decide (rk=2)=false:=by simp[hrk]
      clear hset
      go_wp2
      go_roundw
      case rel =>
       refine⟨out ++ [(⟨nk,na,nb,nc,nd⟩:Ent)],A3,k3,by simp,by simp;have:=HQ1.out;omega,⟨s8,_,I8.out,D8.out,OK8.out.1,?_,?_⟩⟩
       ·have h9:s8.steps=s1.steps+1:=OK8.out.2
        have h10:=HX.out.2.2.2.1
        have h11:=HN.out
        simp only[List.length_append,List.length_singleton]
        omega
       ·have h11:=HN.out
        rw[List.length_append,List.length_singleton,show 65536 - (out.length+1)=n by omega]
        exact HSET.out
      case measure=>have:=HQ1.out;simp[lenOf];omega
   ·have G7:=AS (show((((((w2).setCell ⟨w1.heap.size,0,none⟩ (.int .i64 nk)).setCell ⟨w1.heap.size,1,none⟩ (.int .i64 na)).setCell ⟨w1.heap.size,2,none⟩ (.int .i64 nb)).setCell ⟨w1.heap.size,3,none⟩ (.int .i64 nc)).setCell ⟨w1.heap.size,4,none⟩ (.int .i64 nd)).heap[w1.heap.size]?=some (.cells #[.int .i64 nk,.int .i64 na,.int .i64 nb,.int .i64 nc,.int .i64 nd] 33 (0,0)) from by
     apply blk_as
     ·(repeat (with_reducible first | apply blk_set | apply blk_new | exact QF.out))
     ·simp)
    have BE:=AS (show Below wr.heap.size wr ((((((w2).setCell ⟨w1.heap.size,0,none⟩ (.int .i64 nk)).setCell ⟨w1.heap.size,1,none⟩ (.int .i64 na)).setCell ⟨w1.heap.size,2,none⟩ (.int .i64 nb)).setCell ⟨w1.heap.size,3,none⟩ (.int .i64 nc)).setCell ⟨w1.heap.size,4,none⟩ (.int .i64 nd)) from by (repeat (first | (with_reducible refine Below.setCell ?_ ?_ _;rotate_left;(focus (have z1:=H1.out.size;simp only[sz_alloc,sz_drew] at z1 ⊢;omega))) | with_reducible apply below_alloc | with_reducible apply Below.drew | with_reducible exact Below.refl _ _ | with_reducible refine bchain H2.out ?_ | with_reducible refine bchain H1.out ?_)))
    go_upto_region 4 with fail
    generalize (((((w2).setCell ⟨w1.heap.size,0,none⟩ (.int .i64 nk)).setCell ⟨w1.heap.size,1,none⟩ (.int .i64 na)).setCell ⟨w1.heap.size,2,none⟩ (.int .i64 nb)).setCell ⟨w1.heap.size,3,none⟩ (.int .i64 nc)).setCell ⟨w1.heap.size,4,none⟩ (.int .i64 nd)=wc at G7 BE ⊢
    clear q20_ q21_ q22_ q23_ q24_ q25_ q26_ q27_ q28_ q29_
    have HF7:=AS (show w1.heap.size∉foot (.slice A out.length cp) from fun e=>by have:=HX.out.1.own.lt _ e;have z1:=H1.out.size;have z2:=H2.out.size;simp only[sz_alloc,sz_drew] at z1 z2;omega)
    generalize w1.heap.size=g7 at G7 HF7 ⊢
    have HQ1:=AS hc1
    clear e0_ e1_ e2_ q1 hc1
    obtain⟨n,hn⟩:∃ n,65536 - out.length=n+1:=⟨65535 - out.length,by have:=HQ1.out;omega⟩
    have hset:=HX.out.2.2.2.2
    rw[hn] at hset
    unfold settleN at hset
    rw[HNX.out] at hset
    simp only at hset
    have HN:=AS hn
    clear hn
    cases nok with
    | false =>
     simp only[if_true] at hset
     have HSET:=AS hset
     clear hset
     go_wp2
     go_ret2
     rw[<- HSET.out]
     exact⟨A,cp,F,rfl,HX.out.1.below BE.out,HX.out.2.2.1,by have:=HX.out.2.2.2.1;show s1.steps≤_;omega⟩
    | true =>
     simp only[Bool.true_eq_false,if_false] at hset
     have HSET:=AS hset
     clear hset
     have m0_:=cw G7.out 0 (v:=.int .i64 nk)
     have m1_:=cw G7.out 1 (v:=.int .i64 na)
     have m2_:=cw G7.out 2 (v:=.int .i64 nb)
     have m3_:=cw G7.out 3 (v:=.int .i64 nc)
     have m4_:=cw G7.out 4 (v:=.int .i64 nd)
     have I5:=AS ((HX.out.1.below BE.out).below (below_alloc (Below.refl wc.heap.size wc) (.cells #[.int .i64 nk,.int .i64 na,.int .i64 nb,.int .i64 nc,.int .i64 nd] 33)))
     have OA:=AS I5.out.own
     have RA:=AS (show RowE entE (wc.alloc (.cells #[.int .i64 nk,.int .i64 na,.int .i64 nb,.int .i64 nc,.int .i64 nd] 33)) (some ⟨wc.heap.size,0,none⟩) [(⟨nk,na,nb,nc,nd⟩:Ent)] from rowE_one (E:=entE) (x:=(⟨nk,na,nb,nc,nd⟩:Ent)) (blk_new wc (.cells #[.int .i64 nk,.int .i64 na,.int .i64 nb,.int .i64 nc,.int .i64 nd] 33)))
     have FIR:=AS (show ∀ v1 w6,OwnE entE v1 (out ++ [(⟨nk,na,nb,nc,nd⟩:Ent)]) w6->Keeps (foot (.slice A out.length cp)) (wc.alloc (.cells #[.int .i64 nk,.int .i64 na,.int .i64 nb,.int .i64 nc,.int .i64 nd] 33)) w6->(foot v1=foot (.slice A out.length cp)∨foot v1=[(wc.alloc (.cells #[.int .i64 nk,.int .i64 na,.int .i64 nb,.int .i64 nc,.int .i64 nd] 33)).heap.size])->∃ A3 k3,v1=.slice A3 (out.length+1) k3/\(SetI c s1 b (out ++ [(⟨nk,na,nb,nc,nd⟩:Ent)]) A3 k3 F0 w F w6/\w6.heap[w.heap.size]?=some (.cells #[.int .i64 d0,.int .i64 d1,.int .i64 d2] 74 (0,0)))/\w6.heap[g7]?=some (.cells #[.int .i64 nk,.int .i64 na,.int .i64 nb,.int .i64 nc,.int .i64 nd] 33 (0,0)) from by
      intro v1 w6 hO hK hf
      have hk3:KS (fun x=>x∈foot (.slice A out.length cp)) (wc.alloc (.cells #[.int .i64 nk,.int .i64 na,.int .i64 nb,.int .i64 nc,.int .i64 nd] 33)) w6:=KS.keeps hK
      obtain⟨A3,k3,hv,-⟩:=hO.row
      have hv':v1=.slice A3 (out.length+1) k3:=by rw[hv];simp
      subst hv'
      have hbig:=I5.out.big
      have hown:=(HX.out.1.below BE.out).own
      refine⟨A3,k3,rfl,⟨I5.out.more hO hk3 (fun x hx=>?_),hk3.at_ (blk_alloc (blk_below HX.out.2.1 BE.out) _) (fun e=>by have:=(I5.out.far _ e).2;omega)⟩,hk3.at_ (blk_alloc G7.out _) (fun e=>HF7.out e)⟩
      rcases hf with e | e
      ·exact .inl (by rw[e] at hx;exact hx)
      ·exact .inr (by rw[e] at hx;simp only[List.mem_singleton] at hx;omega))
     go_upto_region 7 with (first | (at_builtin;refine list_appE (E:=entE) (xs:=out) (ys:=[(⟨nk,na,nb,nc,nd⟩:Ent)]) (by kernel_rfl) _ _ rfl rfl rfl rfl (by exact OA.out) (by exact RA.out) (by have h6:=HQ1.out;show _ * 40≤_;simp;omega) ?_;intro v1 w6 hO hK hf;obtain⟨A3,k3,rfl,hI6,hg6⟩:=FIR.out v1 w6 hO hK hf;have I6:=AS hI6;have n0_:w6.cell? ⟨g7,0,none⟩=some (.int .i64 nk):=cw hg6 0;have n1_:w6.cell? ⟨g7,1,none⟩=some (.int .i64 na):=cw hg6 1;have n2_:w6.cell? ⟨g7,2,none⟩=some (.int .i64 nb):=cw hg6 2;have n3_:w6.cell? ⟨g7,3,none⟩=some (.int .i64 nc):=cw hg6 3;have n4_:w6.cell? ⟨g7,4,none⟩=some (.int .i64 nd):=cw hg6 4;clear hO hK hf hI6 hg6) | fail)
     have ST:=AS (worldStep_any (e:=(⟨nk,na,nb,nc,nd⟩:Ent)) I6.out.1.wld (WOk.bounds HC.out HX.out.2.2.1 (by have:=HX.out.2.2.2.1;omega) rfl rfl rfl))
     simp only[entV] at ST
     clear m0_ m1_ m2_ m3_ m4_
     go_wp2_with fail
     refine ST.out.mono ?_
     rintro e w8 ⟨Ad,n8,cp8,rfl,hW8,-,hk8⟩
     have I8:=AS (I6.out.1.step hW8 hk8)
     have D8:=AS (hk8.at_ I6.out.2 I6.out.1.box)
     have OK8:=AS (show WOk c (s1.step c (⟨nk,na,nb,nc,nd⟩:Ent)).1/\(s1.step c (⟨nk,na,nb,nc,nd⟩:Ent)).1.steps=s1.steps+1 from⟨wok_step HC.out HX.out.2.2.1 (by have:=HX.out.2.2.2.1;omega) _,(tinv_step HC.out HX.out.2.2.1.t (by have:=HX.out.2.2.2.1;omega) _).2.2⟩)
     have hset:=HSET.out
     clear hW8 hk8 ST n0_ n1_ n2_ n3_ n4_ HSET
     generalize s1.step c (⟨nk,na,nb,nc,nd⟩:Ent)=SR at I8 OK8 hset ⊢
     obtain⟨s8,rk,dk⟩:=SR
     simp only at hset
     by_cases hrk:rk=2
     ·rw[if_pos hrk] at hset
      have HSET:=AS hset
      have hd:(rk == 2)=true:=by simp[hrk]
      have hd2:decide (rk=2)=true:=by simp[hrk]
      clear hset
      go_wp2
      go_ret2
      rw[<- HSET.out]
      refine⟨A3,k3,_,?_,I8.out,OK8.out.1,by have:=HX.out.2.2.2.1;have h9:s8.steps=s1.steps+1:=OK8.out.2;have h12:=HN.out;show s8.steps≤_;omega⟩
      simp
     ·rw[if_neg hrk] at hset
      have HSET:=AS hset
      have hd:(rk == 2)=false:=by simp[hrk]
      have hd2:decide (rk=2)=false:=by simp[hrk]
      clear hset
      go_wp2
      go_roundw
      case rel =>
       refine⟨out ++ [(⟨nk,na,nb,nc,nd⟩:Ent)],A3,k3,by simp,by simp;have:=HQ1.out;omega,⟨s8,_,I8.out,D8.out,OK8.out.1,?_,?_⟩⟩
       ·have h9:s8.steps=s1.steps+1:=OK8.out.2
        have h10:=HX.out.2.2.2.1
        have h11:=HN.out
        simp only[List.length_append,List.length_singleton]
        omega
       ·have h11:=HN.out
        rw[List.length_append,List.length_singleton,show 65536 - (out.length+1)=n by omega]
        exact HSET.out
      case measure=>have:=HQ1.out;simp[lenOf];omega
   ·have G7:=AS (show((((((w2).setCell ⟨wr.heap.size,0,none⟩ (.int .i64 nk)).setCell ⟨wr.heap.size,1,none⟩ (.int .i64 na)).setCell ⟨wr.heap.size,2,none⟩ (.int .i64 nb)).setCell ⟨wr.heap.size,3,none⟩ (.int .i64 nc)).setCell ⟨wr.heap.size,4,none⟩ (.int .i64 nd)).heap[wr.heap.size]?=some (.cells #[.int .i64 nk,.int .i64 na,.int .i64 nb,.int .i64 nc,.int .i64 nd] 33 (0,0)) from by
     apply blk_as
     ·(repeat (with_reducible first | apply blk_set | apply blk_new | exact QF.out))
     ·simp)
    have BE:=AS (show Below wr.heap.size wr ((((((w2).setCell ⟨wr.heap.size,0,none⟩ (.int .i64 nk)).setCell ⟨wr.heap.size,1,none⟩ (.int .i64 na)).setCell ⟨wr.heap.size,2,none⟩ (.int .i64 nb)).setCell ⟨wr.heap.size,3,none⟩ (.int .i64 nc)).setCell ⟨wr.heap.size,4,none⟩ (.int .i64 nd)) from by (repeat (first | (with_reducible refine Below.setCell ?_ ?_ _;rotate_left;(focus (have z1:=H1.out.size;simp only[sz_alloc,sz_drew] at z1 ⊢;omega))) | with_reducible apply below_alloc | with_reducible apply Below.drew | with_reducible exact Below.refl _ _ | with_reducible refine bchain H2.out ?_ | with_reducible refine bchain H1.out ?_)))
    go_upto_region 4 with fail
    generalize (((((w2).setCell ⟨wr.heap.size,0,none⟩ (.int .i64 nk)).setCell ⟨wr.heap.size,1,none⟩ (.int .i64 na)).setCell ⟨wr.heap.size,2,none⟩ (.int .i64 nb)).setCell ⟨wr.heap.size,3,none⟩ (.int .i64 nc)).setCell ⟨wr.heap.size,4,none⟩ (.int .i64 nd)=wc at G7 BE ⊢
    clear q10_ q11_ q12_ q13_ q14_ q15_ q16_ q17_ q18_ q19_ q20_ q21_ q22_ q23_ q24_ q25_ q26_ q27_ q28_ q29_
    have HF7:=AS (show wr.heap.size∉foot (.slice A out.length cp) from fun e=>by have:=HX.out.1.own.lt _ e;have z1:=H1.out.size;have z2:=H2.out.size;simp only[sz_alloc,sz_drew] at z1 z2;omega)
    generalize wr.heap.size=g7 at G7 HF7 ⊢
    have HQ1:=AS hc1
    clear e0_ e1_ e2_ q1 hc1
    obtain⟨n,hn⟩:∃ n,65536 - out.length=n+1:=⟨65535 - out.length,by have:=HQ1.out;omega⟩
    have hset:=HX.out.2.2.2.2
    rw[hn] at hset
    unfold settleN at hset
    rw[HNX.out] at hset
    simp only at hset
    have HN:=AS hn
    clear hn
    cases nok with
    | false =>
     simp only[if_true] at hset
     have HSET:=AS hset
     clear hset
     go_wp2
     go_ret2
     rw[<- HSET.out]
     exact⟨A,cp,F,rfl,HX.out.1.below BE.out,HX.out.2.2.1,by have:=HX.out.2.2.2.1;show s1.steps≤_;omega⟩
    | true =>
     simp only[Bool.true_eq_false,if_false] at hset
     have HSET:=AS hset
     clear hset
     have m0_:=cw G7.out 0 (v:=.int .i64 nk)
     have m1_:=cw G7.out 1 (v:=.int .i64 na)
     have m2_:=cw G7.out 2 (v:=.int .i64 nb)
     have m3_:=cw G7.out 3 (v:=.int .i64 nc)
     have m4_:=cw G7.out 4 (v:=.int .i64 nd)
     have I5:=AS ((HX.out.1.below BE.out).below (below_alloc (Below.refl wc.heap.size wc) (.cells #[.int .i64 nk,.int .i64 na,.int .i64 nb,.int .i64 nc,.int .i64 nd] 33)))
     have OA:=AS I5.out.own
     have RA:=AS (show RowE entE (wc.alloc (.cells #[.int .i64 nk,.int .i64 na,.int .i64 nb,.int .i64 nc,.int .i64 nd] 33)) (some ⟨wc.heap.size,0,none⟩) [(⟨nk,na,nb,nc,nd⟩:Ent)] from rowE_one (E:=entE) (x:=(⟨nk,na,nb,nc,nd⟩:Ent)) (blk_new wc (.cells #[.int .i64 nk,.int .i64 na,.int .i64 nb,.int .i64 nc,.int .i64 nd] 33)))
     have FIR:=AS (show ∀ v1 w6,OwnE entE v1 (out ++ [(⟨nk,na,nb,nc,nd⟩:Ent)]) w6->Keeps (foot (.slice A out.length cp)) (wc.alloc (.cells #[.int .i64 nk,.int .i64 na,.int .i64 nb,.int .i64 nc,.int .i64 nd] 33)) w6->(foot v1=foot (.slice A out.length cp)∨foot v1=[(wc.alloc (.cells #[.int .i64 nk,.int .i64 na,.int .i64 nb,.int .i64 nc,.int .i64 nd] 33)).heap.size])->∃ A3 k3,v1=.slice A3 (out.length+1) k3/\(SetI c s1 b (out ++ [(⟨nk,na,nb,nc,nd⟩:Ent)]) A3 k3 F0 w F w6/\w6.heap[w.heap.size]?=some (.cells #[.int .i64 d0,.int .i64 d1,.int .i64 d2] 74 (0,0)))/\w6.heap[g7]?=some (.cells #[.int .i64 nk,.int .i64 na,.int .i64 nb,.int .i64 nc,.int .i64 nd] 33 (0,0)) from by
      intro v1 w6 hO hK hf
      have hk3:KS (fun x=>x∈foot (.slice A out.length cp)) (wc.alloc (.cells #[.int .i64 nk,.int .i64 na,.int .i64 nb,.int .i64 nc,.int .i64 nd] 33)) w6:=KS.keeps hK
      obtain⟨A3,k3,hv,-⟩:=hO.row
      have hv':v1=.slice A3 (out.length+1) k3:=by rw[hv];simp
      subst hv'
      have hbig:=I5.out.big
      have hown:=(HX.out.1.below BE.out).own
      refine⟨A3,k3,rfl,⟨I5.out.more hO hk3 (fun x hx=>?_),hk3.at_ (blk_alloc (blk_below HX.out.2.1 BE.out) _) (fun e=>by have:=(I5.out.far _ e).2;omega)⟩,hk3.at_ (blk_alloc G7.out _) (fun e=>HF7.out e)⟩
      rcases hf with e | e
      ·exact .inl (by rw[e] at hx;exact hx)
      ·exact .inr (by rw[e] at hx;simp only[List.mem_singleton] at hx;omega))
     go_upto_region 7 with (first | (at_builtin;refine list_appE (E:=entE) (xs:=out) (ys:=[(⟨nk,na,nb,nc,nd⟩:Ent)]) (by kernel_rfl) _ _ rfl rfl rfl rfl (by exact OA.out) (by exact RA.out) (by have h6:=HQ1.out;show _ * 40≤_;simp;omega) ?_;intro v1 w6 hO hK hf;obtain⟨A3,k3,rfl,hI6,hg6⟩:=FIR.out v1 w6 hO hK hf;have I6:=AS hI6;have n0_:w6.cell? ⟨g7,0,none⟩=some (.int .i64 nk):=cw hg6 0;have n1_:w6.cell? ⟨g7,1,none⟩=some (.int .i64 na):=cw hg6 1;have n2_:w6.cell? ⟨g7,2,none⟩=some (.int .i64 nb):=cw hg6 2;have n3_:w6.cell? ⟨g7,3,none⟩=some (.int .i64 nc):=cw hg6 3;have n4_:w6.cell? ⟨g7,4,none⟩=some (.int .i64 nd):=cw hg6 4;clear hO hK hf hI6 hg6) | fail)
     have ST:=AS (worldStep_any (e:=(⟨nk,na,nb,nc,nd⟩:Ent)) I6.out.1.wld (WOk.bounds HC.out HX.out.2.2.1 (by have:=HX.out.2.2.2.1;omega) rfl rfl rfl))
     simp only[entV] at ST
     clear m0_ m1_ m2_ m3_ m4_
     go_wp2_with fail
     refine ST.out.mono ?_
     rintro e w8 ⟨Ad,n8,cp8,rfl,hW8,-,hk8⟩
     have I8:=AS (I6.out.1.step hW8 hk8)
     have D8:=AS (hk8.at_ I6.out.2 I6.out.1.box)
     have OK8:=AS (show WOk c (s1.step c (⟨nk,na,nb,nc,nd⟩:Ent)).1/\(s1.step c (⟨nk,na,nb,nc,nd⟩:Ent)).1.steps=s1.steps+1 from⟨wok_step HC.out HX.out.2.2.1 (by have:=HX.out.2.2.2.1;omega) _,(tinv_step HC.out HX.out.2.2.1.t (by have:=HX.out.2.2.2.1;omega) _).2.2⟩)
     have hset:=HSET.out
     clear hW8 hk8 ST n0_ n1_ n2_ n3_ n4_ HSET
     generalize s1.step c (⟨nk,na,nb,nc,nd⟩:Ent)=SR at I8 OK8 hset ⊢
     obtain⟨s8,rk,dk⟩:=SR
     simp only at hset
     by_cases hrk:rk=2
     ·rw[if_pos hrk] at hset
      have HSET:=AS hset
      have hd:(rk == 2)=true:=by simp[hrk]
      have hd2:decide (rk=2)=true:=by simp[hrk]
      clear hset
      go_wp2
      go_ret2
      rw[<- HSET.out]
      refine⟨A3,k3,_,?_,I8.out,OK8.out.1,by have:=HX.out.2.2.2.1;have h9:s8.steps=s1.steps+1:=OK8.out.2;have h12:=HN.out;show s8.steps≤_;omega⟩
      simp
     ·rw[if_neg hrk] at hset
      have HSET:=AS hset
      have hd:(rk == 2)=false:=by simp[hrk]
      have hd2:decide (rk=2)=false:=by simp[hrk]
      clear hset
      go_wp2
      go_roundw
      case rel =>
       refine⟨out ++ [(⟨nk,na,nb,nc,nd⟩:Ent)],A3,k3,by simp,by simp;have:=HQ1.out;omega,⟨s8,_,I8.out,D8.out,OK8.out.1,?_,?_⟩⟩
       ·have h9:s8.steps=s1.steps+1:=OK8.out.2
        have h10:=HX.out.2.2.2.1
        have h11:=HN.out
        simp only[List.length_append,List.length_singleton]
        omega
       ·have h11:=HN.out
        rw[List.length_append,List.length_singleton,show 65536 - (out.length+1)=n by omega]
        exact HSET.out
      case measure=>have:=HQ1.out;simp[lenOf];omega
  ·have q1:¬ ((out.length:Int) < 65536):=by omega
   have hset:=HX.out.2.2.2.2
   rw[show 65536 - out.length=0 by omega] at hset
   unfold settleN at hset
   rw[HNX.out] at hset
   have HSET:=AS hset
   have HQ2:=AS hc1
   clear hset hc1
   go_upto_region 10 with fail
   go_region_held3 (fun x=>x.cell? ⟨w.heap.size,0,none⟩=some (.int .i64 d0)/\x.cell? ⟨w.heap.size,1,none⟩=some (.int .i64 d1)/\x.cell? ⟨w.heap.size,2,none⟩=some (.int .i64 d2)) ((refine KEEP.out _ ?_;(repeat (first | (with_reducible refine Below.setCell ?_ ?_ _;rotate_left;(focus (have z1:=H1.out.size;simp only[sz_alloc,sz_drew] at z1 ⊢;omega))) | with_reducible apply below_alloc | with_reducible apply Below.drew | with_reducible exact Below.refl _ _ | with_reducible refine bchain H2.out ?_ | with_reducible refine bchain H1.out ?_)))) ((first | (go_at_call 10;refine(NC.out _ ?_).mono ?_;(focus ((repeat (with_reducible first | apply below_alloc | apply Below.drew | exact Below.refl _ _))));rintro e w1 ⟨Ap,Ah,Af,np,cpp,nh,ch,nf,cf,rfl,hb,hN⟩;have H1:=AS hb;have N1:=AS hN;clear hb hN;have hsz:=H1.out.size;(first | rw[sz_alloc] at hsz | rw[sz_drew,sz_alloc] at hsz);clear hsz;have QF:Aside0 (w1.heap[wr.heap.size]?=some (.cells #[.int .i64 0,.int .i64 0,.int .i64 0,.int .i64 0,.int .i64 0] 33 (0,0))):=AS (zblkED (Y:=wr) (F:=w1) H1.out);obtain⟨q10_,q11_,q12_,q13_,q14_,q15_,q16_,q17_,q18_,q19_⟩:=ZF.out _ _ QF.out) | (go_at_call 10;refine(NC.out _ ?_).mono ?_;(focus ((repeat (with_reducible first | apply below_alloc | apply Below.drew | exact Below.refl _ _))));rintro e w1 ⟨Ap,Ah,Af,np,cpp,nh,ch,nf,cf,rfl,hb,hN⟩;have H1:=AS hb;have N1:=AS hN;clear hb hN) | (go_at_call 70;refine(N1.out _ ?_).mono ?_;(focus ((repeat (with_reducible first | apply below_alloc | apply Below.drew | exact Below.refl _ _))));rintro e w2 ⟨rfl,hb⟩;have H2:=AS hb;clear hb;simp only[entV];have QF:Aside0 (w2.heap[wr.heap.size]?=some (.cells #[.int .i64 0,.int .i64 0,.int .i64 0,.int .i64 0,.int .i64 0] 33 (0,0))):=AS (blk_below QF.out H2.out);obtain⟨q20_,q21_,q22_,q23_,q24_,q25_,q26_,q27_,q28_,q29_⟩:=ZF.out _ _ QF.out) | (go_at_call 70;refine(N1.out _ ?_).mono ?_;(focus ((repeat (with_reducible first | apply below_alloc | apply Below.drew | exact Below.refl _ _))));rintro e w2 ⟨rfl,hb⟩;have H2:=AS hb;clear hb;simp only[entV];have hsz:=H2.out.size;(first | rw[sz_alloc] at hsz | rw[sz_drew,sz_alloc] at hsz);clear hsz;have QF:Aside0 (w2.heap[w1.heap.size]?=some (.cells #[.int .i64 0,.int .i64 0,.int .i64 0,.int .i64 0,.int .i64 0] 33 (0,0))):=AS (zblkE (Y:=w1) (F:=w2) H2.out);obtain⟨q20_,q21_,q22_,q23_,q24_,q25_,q26_,q27_,q28_,q29_⟩:=ZF.out _ _ QF.out) | (go_at_call 70;refine(N1.out _ ?_).mono ?_;(focus ((repeat (with_reducible first | apply below_alloc | apply Below.drew | exact Below.refl _ _))));rintro e w2 ⟨rfl,hb⟩;have H2:=AS hb;clear hb;simp only[entV])))
   ·have BE:=AS (show Below wr.heap.size wr (w2.alloc (.cells #[.int .i64 nk,.int .i64 na,.int .i64 nb,.int .i64 nc,.int .i64 nd] 33)) from by (repeat (first | (with_reducible refine Below.setCell ?_ ?_ _;rotate_left;(focus (have z1:=H1.out.size;simp only[sz_alloc,sz_drew] at z1 ⊢;omega))) | with_reducible apply below_alloc | with_reducible apply Below.drew | with_reducible exact Below.refl _ _ | with_reducible refine bchain H2.out ?_ | with_reducible refine bchain H1.out ?_)))
    go_upto_region 11 with fail
    generalize w2.alloc (.cells #[.int .i64 nk,.int .i64 na,.int .i64 nb,.int .i64 nc,.int .i64 nd] 33)=wc at BE ⊢
    skip
    clear e0_ e1_ e2_
    go_wp2
    all_goals
     go_ret2
     rw[<- HSET.out]
     exact⟨A,cp,F,rfl,HX.out.1.below BE.out,HX.out.2.2.1,by have:=HX.out.2.2.2.1;show s1.steps≤_;omega⟩
   ·have BE:=AS (show Below wr.heap.size wr ((((((w2).setCell ⟨w1.heap.size,0,none⟩ (.int .i64 nk)).setCell ⟨w1.heap.size,1,none⟩ (.int .i64 na)).setCell ⟨w1.heap.size,2,none⟩ (.int .i64 nb)).setCell ⟨w1.heap.size,3,none⟩ (.int .i64 nc)).setCell ⟨w1.heap.size,4,none⟩ (.int .i64 nd)) from by (repeat (first | (with_reducible refine Below.setCell ?_ ?_ _;rotate_left;(focus (have z1:=H1.out.size;simp only[sz_alloc,sz_drew] at z1 ⊢;omega))) | with_reducible apply below_alloc | with_reducible apply Below.drew | with_reducible exact Below.refl _ _ | with_reducible refine bchain H2.out ?_ | with_reducible refine bchain H1.out ?_)))
    go_upto_region 11 with fail
    generalize (((((w2).setCell ⟨w1.heap.size,0,none⟩ (.int .i64 nk)).setCell ⟨w1.heap.size,1,none⟩ (.int .i64 na)).setCell ⟨w1.heap.size,2,none⟩ (.int .i64 nb)).setCell ⟨w1.heap.size,3,none⟩ (.int .i64 nc)).setCell ⟨w1.heap.size,4,none⟩ (.int .i64 nd)=wc at BE ⊢
    clear q20_ q21_ q22_ q23_ q24_ q25_ q26_ q27_ q28_ q29_
    clear e0_ e1_ e2_
    go_wp2
    all_goals
     go_ret2
     rw[<- HSET.out]
     exact⟨A,cp,F,rfl,HX.out.1.below BE.out,HX.out.2.2.1,by have:=HX.out.2.2.2.1;show s1.steps≤_;omega⟩
   ·have BE:=AS (show Below wr.heap.size wr ((((((w2).setCell ⟨wr.heap.size,0,none⟩ (.int .i64 nk)).setCell ⟨wr.heap.size,1,none⟩ (.int .i64 na)).setCell ⟨wr.heap.size,2,none⟩ (.int .i64 nb)).setCell ⟨wr.heap.size,3,none⟩ (.int .i64 nc)).setCell ⟨wr.heap.size,4,none⟩ (.int .i64 nd)) from by (repeat (first | (with_reducible refine Below.setCell ?_ ?_ _;rotate_left;(focus (have z1:=H1.out.size;simp only[sz_alloc,sz_drew] at z1 ⊢;omega))) | with_reducible apply below_alloc | with_reducible apply Below.drew | with_reducible exact Below.refl _ _ | with_reducible refine bchain H2.out ?_ | with_reducible refine bchain H1.out ?_)))
    go_upto_region 11 with fail
    generalize (((((w2).setCell ⟨wr.heap.size,0,none⟩ (.int .i64 nk)).setCell ⟨wr.heap.size,1,none⟩ (.int .i64 na)).setCell ⟨wr.heap.size,2,none⟩ (.int .i64 nb)).setCell ⟨wr.heap.size,3,none⟩ (.int .i64 nc)).setCell ⟨wr.heap.size,4,none⟩ (.int .i64 nd)=wc at BE ⊢
    clear q10_ q11_ q12_ q13_ q14_ q15_ q16_ q17_ q18_ q19_ q20_ q21_ q22_ q23_ q24_ q25_ q26_ q27_ q28_ q29_
    clear e0_ e1_ e2_
    go_wp2
    all_goals
     go_ret2
     rw[<- HSET.out]
     exact⟨A,cp,F,rfl,HX.out.1.below BE.out,HX.out.2.2.1,by have:=HX.out.2.2.2.1;show s1.steps≤_;omega⟩
end Go.Proofs.YtiebppkhaiofeaaGreat.K
