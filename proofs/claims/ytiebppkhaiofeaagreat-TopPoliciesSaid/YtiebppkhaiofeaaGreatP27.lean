/- Part of the proof of TopPolicies: what functions of the program do. -/
import Derived.Test.YtiebppkhaiofeaaGreatP26
import Derived.Test.YtiebppkhaiofeaaGreatP00
set_option maxHeartbeats 4000000
set_option maxRecDepth 100000
set_option linter.unusedVariables false
set_option linter.unusedSimpArgs false
open Go.IntKind renaming i64→I
open Go.Value renaming slice→J, int→V, bool→aA, pointer→bA
open Option renaming some→M, none→U
open Go.Obj renaming cells→O
open Go renaming Calls→bB, World→cA
open List renaming getD_eq_getElem?_getD→cB, getElem?_eq_getElem→dB, mem_singleton→tA, length_append→xA
open Go.Proofs.Tryz renaming prog→dA
open Go.Proofs.YtiebppkhaiofeaaGreatW.PrintWords renaming below_alloc→eA, blk_drew→fB, blk_frozen→jA, blk_below→kA, blk_alloc→lA, blk_set→mA, blk_new→nA
open Go.RowKit.Below renaming refl→fA, drew→iA, setCell→oA
open Go.Proofs.YtiebppkhaiofeaaGreat.K renaming sz_alloc→gB, sz_drew→iB
open Nat renaming le_trans→lB, le_refl→pA
open Go.Proofs.YtiebppkhaiofeaaGreat.K.KS renaming below→pB, refl→qB
open And renaming intro→qA
open Go.World renaming size_alloc→rA
open Bool renaming false_eq_true→vA
namespace Go.Proofs.YtiebppkhaiofeaaGreat.K
open Go.RowKit Go.Proofs.YtiebppkhaiofeaaGreatW.PrintWords Go.Proofs.YtiebppkhaiofeaaGreat.S
attribute [local go_sem] World.cell?_alloc_some
open Go.ChangeMaps Go.MapKept
def lenOf:Value->Nat
 | J _ n _=>n
 | _=>0
def settleN (c:Cfg) (d:Drw):Nat->S.World->List Ent->S.World×List Ent×Bool
 | 0,s,out=>(s,out,!(nextS s d).2)
 | n+1,s,out=>if (nextS s d).2=false then (s,out,true) else if (s.step c (nextS s d).1).2.1=2 then ((s.step c (nextS s d).1).1,out ++ [(nextS s d).1],false) else settleN c d n (s.step c (nextS s d).1).1 (out ++ [(nextS s d).1])
structure SetI (c:Cfg) (s:S.World) (b:Nat) (out:List Ent) (A:Option Addr) (cp:Nat) (F0:Set_) (w0:cA) (F:Set_) (w:cA):Prop where
 wld:WldAt c s b F w
 own:OwnE entE (J A out.length cp) out w
 far:∀ x∈foot (J A out.length cp),¬ F x/\w0.heap.size < x
 old:∀ x,x < w0.heap.size->F x->F0 x
 box:¬ F w0.heap.size
 top:∀ x,w.heap.size≤x->¬ F x
 ks:KS F0 w0 w
 big:w0.heap.size < w.heap.size
section
variable {c:Cfg} {s s':S.World} {b:Nat} {out:List Ent} {A A':Option Addr} {cp cp':Nat} {F0 F:Set_} {w0 w w' w3:cA}
theorem SetI.below (h:SetI c s b out A cp F0 w0 F w) (hb:Below w.heap.size w w'):SetI c s b out A cp F0 w0 F w' :=
 ⟨h.wld.keep (pB (fun _=>False) hb) (fun x _ hx=>⟨hx,id⟩),h.own.ks (pB (fun _=>False) hb) (fun _ _=>id),h.far,h.old,h.box,fun x hx=>h.top x (lB hb.size hx),h.ks.andBelow hb,Nat.lt_of_lt_of_le h.big hb.size⟩
theorem SetI.step (h:SetI c s b out A cp F0 w0 F w) (hW:WldAt c s' b (gr F w) w') (hk:KS F w w'):SetI c s' b out A cp F0 w0 (fun x=>F x∨(w.heap.size≤x/\x < w'.heap.size)) w':=by
 have hz:=h.ks.size
 have hz2:=hk.size
 refine⟨hW.keep (qB (fun _=>False) _) (fun x hx h=>⟨h.imp id (fun e=>⟨e,hx⟩),id⟩),h.own.ks hk (fun x hx=>(h.far x hx).1),fun x hx=>⟨fun e=>?_,(h.far x hx).2⟩,fun x hx e=>?_,fun e=>?_,fun x hx e=>?_,h.ks.trans hk (fun x hx e=>h.old x hx e),by have:=h.big;omega⟩
 ·rcases e with e | e
  ·exact(h.far x hx).1 e
  ·have:=h.own.lt x hx;omega
 ·rcases e with e | e
  ·exact h.old x hx e
  ·omega
 ·rcases e with e | e
  ·exact h.box e
  ·have:=h.big;omega
 ·rcases e with e | e
  ·exact h.top x vB e
  ·omega
theorem SetI.more {en:Ent} (h:SetI c s b out A cp F0 w0 F w) (hO:OwnE entE (J A' (out.length+1) cp') (out ++ [en]) w3) (hk:KS (fun x=>x∈foot (J A out.length cp)) w w3) (hf:∀ x∈foot (J A' (out.length+1) cp'),x∈foot (J A out.length cp)∨(w.heap.size≤x/\w0.heap.size < x)):SetI c s b (out ++ [en]) A' cp' F0 w0 F w3:=by
 have hlen:(out ++ [en]).length=out.length+1:=by simp
 refine⟨h.wld.keep hk (fun x _ hx=>⟨hx,fun e=>(h.far x e).1 hx⟩),by rw[hlen];exact hO,?_,h.old,h.box,fun x hx=>h.top x (lB hk.size hx),h.ks.trans hk (fun x hx e=>by have:=(h.far x e).2;omega),Nat.lt_of_lt_of_le h.big hk.size⟩
 rw[hlen]
 intro x hx
 rcases hf x hx with e | e
 ·exact h.far x e
 ·exact⟨h.top x e.1,e.2⟩
end
theorem ShotV.below {s:S.World} {Ap Ah Af:Option Addr} {np cp nh ch nf cf:Nat} {ps:List PlaceR} {B:Nat} {w w':cA} (h:ShotV s Ap Ah Af np cp nh ch nf cf ps B w) (hb:Below w.heap.size w w'):ShotV s Ap Ah Af np cp nh ch nf cf ps B w':=by
 obtain⟨h1,h2,h3,h4,h5,h6,h7⟩:=h
 have hk:=pB (fun _=>False) hb
 exact⟨h1.ks hk (fun _ _=>id),h2,h3,⟨h4.len,fun i hi=>(h4.ok i hi).ks hk (fun _ _=>id) (fun _ _=>id)⟩,h5.ks hk (fun _ _=>id),h6.ks hk (fun _ _=>id),h7⟩
theorem zblkE {Y F:cA} (hl:Below (Y.alloc (O #[V I 0,V I 0,V I 0,V I 0,V I 0] 33)).heap.size (Y.alloc (O #[V I 0,V I 0,V I 0,V I 0,V I 0] 33)) F):F.heap[Y.heap.size]?=M (O #[V I 0,V I 0,V I 0,V I 0,V I 0] 33 (0,0)):=kA (nA Y _) hl
theorem zblkED {Y F:cA} (hl:Below (Y.alloc (O #[V I 0,V I 0,V I 0,V I 0,V I 0] 33)).drew.heap.size (Y.alloc (O #[V I 0,V I 0,V I 0,V I 0,V I 0] 33)).drew F):F.heap[Y.heap.size]?=M (O #[V I 0,V I 0,V I 0,V I 0,V I 0] 33 (0,0)):=kA (fB (nA Y _)) hl
def NxC (c:Cfg) (s:S.World) (b:Nat) (d0 d1 d2:Int) (wr:cA):Prop:=∀ X,Below wr.heap.size wr X->bB dA 10 #[bA (M ⟨b,0,U⟩)] X fun e w'=>∃ Ap Ah Af np cp nh ch nf cf,e=.returned (.agg #[V I s.steps,V I s.ticks,J Ap np cp,J Ah nh ch,J Af nf cf])/\Below X.heap.size X w'/\∀ Y,Below w'.heap.size w' Y->bB dA 70 #[.agg #[V I s.steps,V I s.ticks,J Ap np cp,J Ah nh ch,J Af nf cf],.agg #[V I d0,V I d1,V I d2]] Y (RV (.tuple #[entV (nextS s ⟨d0,d1,d2⟩).1,aA (nextS s ⟨d0,d1,d2⟩).2]) Y)
theorem nxC {c:Cfg} {s:S.World} {b:Nat} {F:Set_} {wr:cA} (hc:c.check=0) (hs:WOk c s) (hW:WldAt c s b F wr) (d0 d1 d2:Int):NxC c s b d0 d1 d2 wr:=fun X hb=>by
 refine(worldShot_any (F:=F) (hW.keep (pB (fun _=>False) hb) (fun x _ h=>⟨h,id⟩)) hs hc).mono ?_
 rintro e w' ⟨Ap,Ah,Af,np,cp,nh,ch,nf,cf,ps,rfl,hS,hb2⟩
 have h1:=hS.2.1
 have h2:=hS.2.2.2.2.2.2.2
 subst h1 h2
 exact⟨Ap,Ah,Af,_,cp,nh,ch,_,cf,rfl,hb2,fun Y hY=>next_any (hS.below hY) d0 d1 d2⟩
theorem settle_any {c:Cfg} {s:S.World} {b:Nat} {F0:Set_} {w:cA} (hc:c.check=0) (hs:WOk c s) (hst:s.steps≤900000) (hW:WldAt c s b F0 w) (d0 d1 d2:Int) (R:S.World×List Ent×Bool) (hR:settleN c ⟨d0,d1,d2⟩ 65536 s []=R) :
  bB dA 39 #[bA (M ⟨b,0,U⟩),.agg #[V I d0,V I d1,V I d2]] w fun e w'=>∃ A cp F,e=.returned (.tuple #[J A R.2.1.length cp,aA R.2.2])/\SetI c R.1 b R.2.1 A cp F0 w F w'/\WOk c R.1/\R.1.steps≤1000000:=by
 have HC:=AS hc
 have BX:=AS (nA w (O #[V I d0,V I d1,V I d2] 74))
 have SZ:=AS (gB w (O #[V I d0,V I d1,V I d2] 74))
 have R0:=AS (show ∃ s F,SetI c s b [] U 0 F0 w F (w.alloc (O #[V I d0,V I d1,V I d2] 74))/\(w.alloc (O #[V I d0,V I d1,V I d2] 74)).heap[w.heap.size]?=M (O #[V I d0,V I d1,V I d2] 74 (0,0))/\WOk c s/\s.steps+(65536 - ([]:List Ent).length:Nat)≤1000000/\settleN c ⟨d0,d1,d2⟩ (65536 - ([]:List Ent).length) s []=R from
  ⟨s,fun x=>F0 x/\x < w.heap.size,⟨hW.keep (pB (fun _=>False) (eA (fA _ _) _)) (fun x hx h=>⟨⟨h,hx⟩,id⟩),OwnE.nil _,fun x hx=>by simp[foot_nil] at hx,fun x _ h=>h.1,fun h=>Nat.lt_irrefl _ h.2,fun x hx h=>by have:=SZ.out;have:=h.2;omega,pB _ (eA (fA _ _) _),by have:=SZ.out;omega⟩,BX.out,hs,by simp;omega,hR⟩)
 clear hs hW hR hc hst
 go_enter Tryz.func39,Tryz.ntmps39
 go_wp2_with fail
 generalize w.alloc (O #[V I d0,V I d1,V I d2] 74)=W at R0 ⊢
 clear BX SZ
 go_loopw [6,7,8,9,10] (fun v6 v7 v8 v9 v10 wr=>∃ (out:List Ent) (A:Option Addr) (cp:Nat),v6=J A out.length cp/\out.length≤65536/\Aside0 (∃ s F,SetI c s b out A cp F0 w F wr/\wr.heap[w.heap.size]?=M (O #[V I d0,V I d1,V I d2] 74 (0,0))/\WOk c s/\s.steps+(65536 - out.length:Nat)≤1000000/\settleN c ⟨d0,d1,d2⟩ (65536 - out.length) s out=R)) (fun v6 _ _ _ _ _=>65537 - lenOf v6)
 case atStart=>exact⟨[],U,0,rfl,zB,R0⟩
 case round =>
  obtain⟨out,A,cp,rfl,hle,RR⟩:=hrel
  obtain⟨s1,F,hI,hbx,hok,hst,hset⟩:=RR.out
  have NC:=AS (nxC HC.out hok hI.wld d0 d1 d2)
  have HX:=AS (qA hI (qA hbx (qA hok (qA hst hset))))
  have KEEP:=AS (show ∀ x,Below wr.heap.size wr x->(x.cell? ⟨w.heap.size,0,U⟩=M (V I d0)/\x.cell? ⟨w.heap.size,1,U⟩=M (V I d1)/\x.cell? ⟨w.heap.size,2,U⟩=M (V I d2)) from fun x hx=>by have h11:=kA hbx hx;exact⟨cw h11 0,cw h11 1,cw h11 2⟩)
  have ZF:=AS (show ∀ (x:cA) (g:Nat),x.heap[g]?=M (O #[V I 0,V I 0,V I 0,V I 0,V I 0] 33 (0,0))->(x.cell? ⟨g,0,U⟩=M (V I 0)/\x.cell? ⟨g,1,U⟩=M (V I 0)/\x.cell? ⟨g,2,U⟩=M (V I 0)/\x.cell? ⟨g,3,U⟩=M (V I 0)/\x.cell? ⟨g,4,U⟩=M (V I 0)/\x.frozen? ⟨g,0,U⟩=false/\x.frozen? ⟨g,1,U⟩=false/\x.frozen? ⟨g,2,U⟩=false/\x.frozen? ⟨g,3,U⟩=false/\x.frozen? ⟨g,4,U⟩=false) from fun x g h=>⟨cw h 0,cw h 1,cw h 2,cw h 3,cw h 4,jA h 0,jA h 1,jA h 2,jA h 3,jA h 4⟩)
  clear hI hbx hok hst hset
  unfold NxC at NC
  have ENX:=AS (show ∃ nx,nextS s1 ⟨d0,d1,d2⟩=nx from⟨_,rfl⟩)
  obtain⟨⟨⟨nk,na,nb,nc,nd⟩,nok⟩,hnx⟩:=ENX.out
  rw[hnx] at NC
  have HNX:=AS hnx
  clear hnx ENX
  obtain⟨e0_,e1_,e2_⟩:=KEEP.out wr (fA _ _)
  by_cases hc1:out.length < 65536
  ·have q1:(out.length:Int) < 65536:=vB
   go_upto_region 3 with fail
   go_region_held3 (fun x=>x.cell? ⟨w.heap.size,0,U⟩=M (V I d0)/\x.cell? ⟨w.heap.size,1,U⟩=M (V I d1)/\x.cell? ⟨w.heap.size,2,U⟩=M (V I d2)) ((refine KEEP.out _ ?_;(repeat (first | (with_reducible refine oA ?_ ?_ _;rotate_left;(focus (have z1:=H1.out.size;simp only[gB,iB] at z1 ⊢;omega))) | with_reducible apply eA | with_reducible apply iA | with_reducible exact fA _ _ | with_reducible refine bchain H2.out ?_ | with_reducible refine bchain H1.out ?_)))) ((first | (go_at_call 10;refine(NC.out _ ?_).mono ?_;(focus ((repeat (with_reducible first | apply eA | apply iA | exact fA _ _))));rintro e w1 ⟨Ap,Ah,Af,np,cpp,nh,ch,nf,cf,rfl,hb,hN⟩;have H1:=AS hb;have N1:=AS hN;clear hb hN;have hsz:=H1.out.size;(first | rw[gB] at hsz | rw[iB,gB] at hsz);clear hsz;have QF:Aside0 (w1.heap[wr.heap.size]?=M (O #[V I 0,V I 0,V I 0,V I 0,V I 0] 33 (0,0))):=AS (zblkED (Y:=wr) (F:=w1) H1.out);obtain⟨q10_,q11_,q12_,q13_,q14_,q15_,q16_,q17_,q18_,q19_⟩:=ZF.out _ _ QF.out) | (go_at_call 10;refine(NC.out _ ?_).mono ?_;(focus ((repeat (with_reducible first | apply eA | apply iA | exact fA _ _))));rintro e w1 ⟨Ap,Ah,Af,np,cpp,nh,ch,nf,cf,rfl,hb,hN⟩;have H1:=AS hb;have N1:=AS hN;clear hb hN) | (go_at_call 70;refine(N1.out _ ?_).mono ?_;(focus ((repeat (with_reducible first | apply eA | apply iA | exact fA _ _))));rintro e w2 ⟨rfl,hb⟩;have H2:=AS hb;clear hb;simp only[entV];have QF:Aside0 (w2.heap[wr.heap.size]?=M (O #[V I 0,V I 0,V I 0,V I 0,V I 0] 33 (0,0))):=AS (kA QF.out H2.out);obtain⟨q20_,q21_,q22_,q23_,q24_,q25_,q26_,q27_,q28_,q29_⟩:=ZF.out _ _ QF.out) | (go_at_call 70;refine(N1.out _ ?_).mono ?_;(focus ((repeat (with_reducible first | apply eA | apply iA | exact fA _ _))));rintro e w2 ⟨rfl,hb⟩;have H2:=AS hb;clear hb;simp only[entV];have hsz:=H2.out.size;(first | rw[gB] at hsz | rw[iB,gB] at hsz);clear hsz;have QF:Aside0 (w2.heap[w1.heap.size]?=M (O #[V I 0,V I 0,V I 0,V I 0,V I 0] 33 (0,0))):=AS (zblkE (Y:=w1) (F:=w2) H2.out);obtain⟨q20_,q21_,q22_,q23_,q24_,q25_,q26_,q27_,q28_,q29_⟩:=ZF.out _ _ QF.out) | (go_at_call 70;refine(N1.out _ ?_).mono ?_;(focus ((repeat (with_reducible first | apply eA | apply iA | exact fA _ _))));rintro e w2 ⟨rfl,hb⟩;have H2:=AS hb;clear hb;simp only[entV])))
   ·have G7:=AS (show(w2.alloc (O #[V I nk,V I na,V I nb,V I nc,V I nd] 33)).heap[w2.heap.size]?=M (O #[V I nk,V I na,V I nb,V I nc,V I nd] 33 (0,0)) from by
     apply blk_as
     ·(repeat (with_reducible first | apply mA | apply nA | exact QF.out))
     ·simp)
    have BE:=AS (show Below wr.heap.size wr (w2.alloc (O #[V I nk,V I na,V I nb,V I nc,V I nd] 33)) from by (repeat (first | (with_reducible refine oA ?_ ?_ _;rotate_left;(focus (have z1:=H1.out.size;simp only[gB,iB] at z1 ⊢;omega))) | with_reducible apply eA | with_reducible apply iA | with_reducible exact fA _ _ | with_reducible refine bchain H2.out ?_ | with_reducible refine bchain H1.out ?_)))
    go_upto_region 4 with fail
    generalize w2.alloc (O #[V I nk,V I na,V I nb,V I nc,V I nd] 33)=wc at G7 BE ⊢
    skip
    have HF7:=AS (show w2.heap.size∉foot (J A out.length cp) from fun e=>by have:=HX.out.1.own.lt _ e;have z1:=H1.out.size;have z2:=H2.out.size;simp only[gB,iB] at z1 z2;omega)
    generalize w2.heap.size=g7 at G7 HF7 ⊢
    have HQ1:=AS hc1
    clear e0_ e1_ e2_ q1 hc1
    obtain⟨n,hn⟩:∃ n,65536 - out.length=n+1:=⟨65535 - out.length,by have:=HQ1.out;omega⟩
    have hset:=HX.out.2.2.2.2
    rw[hn] at hset
    unfold settleN at hset
    rw[HNX.out] at hset
    simp only at hset
    have HN:=AS hn
    clear hn
    cases nok with
    | false =>
     simp only[if_true] at hset
     have HSET:=AS hset
     clear hset
     go_wp2
     go_ret2
     rw[<- HSET.out]
     exact⟨A,cp,F,rfl,HX.out.1.below BE.out,HX.out.2.2.1,by have:=HX.out.2.2.2.1;show s1.steps≤_;omega⟩
    | true =>
     simp only[Bool.true_eq_false,if_false] at hset
     have HSET:=AS hset
     clear hset
     have m0_:=cw G7.out 0 (v:=V I nk)
     have m1_:=cw G7.out 1 (v:=V I na)
     have m2_:=cw G7.out 2 (v:=V I nb)
     have m3_:=cw G7.out 3 (v:=V I nc)
     have m4_:=cw G7.out 4 (v:=V I nd)
     have I5:=AS ((HX.out.1.below BE.out).below (eA (fA wc.heap.size wc) (O #[V I nk,V I na,V I nb,V I nc,V I nd] 33)))
     have OA:=AS I5.out.own
     have RA:=AS (show RowE entE (wc.alloc (O #[V I nk,V I na,V I nb,V I nc,V I nd] 33)) (M ⟨wc.heap.size,0,U⟩) [(⟨nk,na,nb,nc,nd⟩:Ent)] from rowE_one (E:=entE) (x:=(⟨nk,na,nb,nc,nd⟩:Ent)) (nA wc (O #[V I nk,V I na,V I nb,V I nc,V I nd] 33)))
     have FIR:=AS (show ∀ v1 w6,OwnE entE v1 (out ++ [(⟨nk,na,nb,nc,nd⟩:Ent)]) w6->Keeps (foot (J A out.length cp)) (wc.alloc (O #[V I nk,V I na,V I nb,V I nc,V I nd] 33)) w6->(foot v1=foot (J A out.length cp)∨foot v1=[(wc.alloc (O #[V I nk,V I na,V I nb,V I nc,V I nd] 33)).heap.size])->∃ A3 k3,v1=J A3 (out.length+1) k3/\(SetI c s1 b (out ++ [(⟨nk,na,nb,nc,nd⟩:Ent)]) A3 k3 F0 w F w6/\w6.heap[w.heap.size]?=M (O #[V I d0,V I d1,V I d2] 74 (0,0)))/\w6.heap[g7]?=M (O #[V I nk,V I na,V I nb,V I nc,V I nd] 33 (0,0)) from by
      intro v1 w6 hO hK hf
      have hk3:KS (fun x=>x∈foot (J A out.length cp)) (wc.alloc (O #[V I nk,V I na,V I nb,V I nc,V I nd] 33)) w6:=KS.keeps hK
      obtain⟨A3,k3,hv,-⟩:=hO.row
      have hv':v1=J A3 (out.length+1) k3:=by rw[hv];simp
      subst hv'
      have hbig:=I5.out.big
      have hown:=(HX.out.1.below BE.out).own
      refine⟨A3,k3,rfl,⟨I5.out.more hO hk3 (fun x hx=>?_),hk3.at_ (lA (kA HX.out.2.1 BE.out) _) (fun e=>by have:=(I5.out.far _ e).2;omega)⟩,hk3.at_ (lA G7.out _) (fun e=>HF7.out e)⟩
      rcases hf with e | e
      ·exact .inl (by rw[e] at hx;exact hx)
      ·exact .inr (by rw[e] at hx;simp only[tA] at hx;omega))
     go_upto_region 7 with (first | (at_builtin;refine list_appE (E:=entE) (xs:=out) (ys:=[(⟨nk,na,nb,nc,nd⟩:Ent)]) xB _ _ rfl rfl rfl rfl (by exact OA.out) (by exact RA.out) (by have h6:=HQ1.out;show _ * 40≤_;simp;omega) ?_;intro v1 w6 hO hK hf;obtain⟨A3,k3,rfl,hI6,hg6⟩:=FIR.out v1 w6 hO hK hf;have I6:=AS hI6;have n0_:w6.cell? ⟨g7,0,U⟩=M (V I nk):=cw hg6 0;have n1_:w6.cell? ⟨g7,1,U⟩=M (V I na):=cw hg6 1;have n2_:w6.cell? ⟨g7,2,U⟩=M (V I nb):=cw hg6 2;have n3_:w6.cell? ⟨g7,3,U⟩=M (V I nc):=cw hg6 3;have n4_:w6.cell? ⟨g7,4,U⟩=M (V I nd):=cw hg6 4;clear hO hK hf hI6 hg6) | fail)
     have ST:=AS (worldStep_any (e:=(⟨nk,na,nb,nc,nd⟩:Ent)) I6.out.1.wld (WOk.bounds HC.out HX.out.2.2.1 (by have:=HX.out.2.2.2.1;omega) rfl rfl rfl))
     simp only[entV] at ST
     clear m0_ m1_ m2_ m3_ m4_
     go_wp2_with fail
     refine ST.out.mono ?_
     rintro e w8 ⟨Ad,n8,cp8,rfl,hW8,-,hk8⟩
     have I8:=AS (I6.out.1.step hW8 hk8)
     have D8:=AS (hk8.at_ I6.out.2 I6.out.1.box)
     have OK8:=AS (show WOk c (s1.step c (⟨nk,na,nb,nc,nd⟩:Ent)).1/\(s1.step c (⟨nk,na,nb,nc,nd⟩:Ent)).1.steps=s1.steps+1 from⟨wok_step HC.out HX.out.2.2.1 (by have:=HX.out.2.2.2.1;omega) _,(tinv_step HC.out HX.out.2.2.1.t (by have:=HX.out.2.2.2.1;omega) _).2.2⟩)
     have hset:=HSET.out
     clear hW8 hk8 ST n0_ n1_ n2_ n3_ n4_ HSET
     generalize s1.step c (⟨nk,na,nb,nc,nd⟩:Ent)=SR at I8 OK8 hset ⊢
     obtain⟨s8,rk,dk⟩:=SR
     simp only at hset
     by_cases hrk:rk=2
     ·rw[if_pos hrk] at hset
      have HSET:=AS hset
      have hd:(rk == 2)=true:=by simp[hrk]
      have hd2:decide (rk=2)=true:=by simp[hrk]
      clear hset
      go_wp2
      go_ret2
      rw[<- HSET.out]
      refine⟨A3,k3,_,?_,I8.out,OK8.out.1,by have:=HX.out.2.2.2.1;have h9:s8.steps=s1.steps+1:=OK8.out.2;have h12:=HN.out;show s8.steps≤_;omega⟩
      simp
     ·rw[if_neg hrk] at hset
      have HSET:=AS hset
      have hd:(rk == 2)=false:=by simp[hrk]
      have hd2:decide (rk=2)=false:=by simp[hrk]
      clear hset
      go_wp2
      go_roundw
      case rel =>
       refine⟨out ++ [(⟨nk,na,nb,nc,nd⟩:Ent)],A3,k3,zB,by simp;have:=HQ1.out;omega,⟨s8,_,I8.out,D8.out,OK8.out.1,?_,?_⟩⟩
       ·have h9:s8.steps=s1.steps+1:=OK8.out.2
        have h10:=HX.out.2.2.2.1
        have h11:=HN.out
        simp only[xA,List.length_singleton]
        omega
       ·have h11:=HN.out
        rw[xA,List.length_singleton,show 65536 - (out.length+1)=n by omega]
        exact HSET.out
      case measure=>have:=HQ1.out;simp[lenOf];omega
   ·have G7:=AS (show((((((w2).setCell ⟨w1.heap.size,0,U⟩ (V I nk)).setCell ⟨w1.heap.size,1,U⟩ (V I na)).setCell ⟨w1.heap.size,2,U⟩ (V I nb)).setCell ⟨w1.heap.size,3,U⟩ (V I nc)).setCell ⟨w1.heap.size,4,U⟩ (V I nd)).heap[w1.heap.size]?=M (O #[V I nk,V I na,V I nb,V I nc,V I nd] 33 (0,0)) from by
     apply blk_as
     ·(repeat (with_reducible first | apply mA | apply nA | exact QF.out))
     ·simp)
    have BE:=AS (show Below wr.heap.size wr ((((((w2).setCell ⟨w1.heap.size,0,U⟩ (V I nk)).setCell ⟨w1.heap.size,1,U⟩ (V I na)).setCell ⟨w1.heap.size,2,U⟩ (V I nb)).setCell ⟨w1.heap.size,3,U⟩ (V I nc)).setCell ⟨w1.heap.size,4,U⟩ (V I nd)) from by (repeat (first | (with_reducible refine oA ?_ ?_ _;rotate_left;(focus (have z1:=H1.out.size;simp only[gB,iB] at z1 ⊢;omega))) | with_reducible apply eA | with_reducible apply iA | with_reducible exact fA _ _ | with_reducible refine bchain H2.out ?_ | with_reducible refine bchain H1.out ?_)))
    go_upto_region 4 with fail
    generalize (((((w2).setCell ⟨w1.heap.size,0,U⟩ (V I nk)).setCell ⟨w1.heap.size,1,U⟩ (V I na)).setCell ⟨w1.heap.size,2,U⟩ (V I nb)).setCell ⟨w1.heap.size,3,U⟩ (V I nc)).setCell ⟨w1.heap.size,4,U⟩ (V I nd)=wc at G7 BE ⊢
    clear q20_ q21_ q22_ q23_ q24_ q25_ q26_ q27_ q28_ q29_
    have HF7:=AS (show w1.heap.size∉foot (J A out.length cp) from fun e=>by have:=HX.out.1.own.lt _ e;have z1:=H1.out.size;have z2:=H2.out.size;simp only[gB,iB] at z1 z2;omega)
    generalize w1.heap.size=g7 at G7 HF7 ⊢
    have HQ1:=AS hc1
    clear e0_ e1_ e2_ q1 hc1
    obtain⟨n,hn⟩:∃ n,65536 - out.length=n+1:=⟨65535 - out.length,by have:=HQ1.out;omega⟩
    have hset:=HX.out.2.2.2.2
    rw[hn] at hset
    unfold settleN at hset
    rw[HNX.out] at hset
    simp only at hset
    have HN:=AS hn
    clear hn
    cases nok with
    | false =>
     simp only[if_true] at hset
     have HSET:=AS hset
     clear hset
     go_wp2
     go_ret2
     rw[<- HSET.out]
     exact⟨A,cp,F,rfl,HX.out.1.below BE.out,HX.out.2.2.1,by have:=HX.out.2.2.2.1;show s1.steps≤_;omega⟩
    | true =>
     simp only[Bool.true_eq_false,if_false] at hset
     have HSET:=AS hset
     clear hset
     have m0_:=cw G7.out 0 (v:=V I nk)
     have m1_:=cw G7.out 1 (v:=V I na)
     have m2_:=cw G7.out 2 (v:=V I nb)
     have m3_:=cw G7.out 3 (v:=V I nc)
     have m4_:=cw G7.out 4 (v:=V I nd)
     have I5:=AS ((HX.out.1.below BE.out).below (eA (fA wc.heap.size wc) (O #[V I nk,V I na,V I nb,V I nc,V I nd] 33)))
     have OA:=AS I5.out.own
     have RA:=AS (show RowE entE (wc.alloc (O #[V I nk,V I na,V I nb,V I nc,V I nd] 33)) (M ⟨wc.heap.size,0,U⟩) [(⟨nk,na,nb,nc,nd⟩:Ent)] from rowE_one (E:=entE) (x:=(⟨nk,na,nb,nc,nd⟩:Ent)) (nA wc (O #[V I nk,V I na,V I nb,V I nc,V I nd] 33)))
     have FIR:=AS (show ∀ v1 w6,OwnE entE v1 (out ++ [(⟨nk,na,nb,nc,nd⟩:Ent)]) w6->Keeps (foot (J A out.length cp)) (wc.alloc (O #[V I nk,V I na,V I nb,V I nc,V I nd] 33)) w6->(foot v1=foot (J A out.length cp)∨foot v1=[(wc.alloc (O #[V I nk,V I na,V I nb,V I nc,V I nd] 33)).heap.size])->∃ A3 k3,v1=J A3 (out.length+1) k3/\(SetI c s1 b (out ++ [(⟨nk,na,nb,nc,nd⟩:Ent)]) A3 k3 F0 w F w6/\w6.heap[w.heap.size]?=M (O #[V I d0,V I d1,V I d2] 74 (0,0)))/\w6.heap[g7]?=M (O #[V I nk,V I na,V I nb,V I nc,V I nd] 33 (0,0)) from by
      intro v1 w6 hO hK hf
      have hk3:KS (fun x=>x∈foot (J A out.length cp)) (wc.alloc (O #[V I nk,V I na,V I nb,V I nc,V I nd] 33)) w6:=KS.keeps hK
      obtain⟨A3,k3,hv,-⟩:=hO.row
      have hv':v1=J A3 (out.length+1) k3:=by rw[hv];simp
      subst hv'
      have hbig:=I5.out.big
      have hown:=(HX.out.1.below BE.out).own
      refine⟨A3,k3,rfl,⟨I5.out.more hO hk3 (fun x hx=>?_),hk3.at_ (lA (kA HX.out.2.1 BE.out) _) (fun e=>by have:=(I5.out.far _ e).2;omega)⟩,hk3.at_ (lA G7.out _) (fun e=>HF7.out e)⟩
      rcases hf with e | e
      ·exact .inl (by rw[e] at hx;exact hx)
      ·exact .inr (by rw[e] at hx;simp only[tA] at hx;omega))
     go_upto_region 7 with (first | (at_builtin;refine list_appE (E:=entE) (xs:=out) (ys:=[(⟨nk,na,nb,nc,nd⟩:Ent)]) xB _ _ rfl rfl rfl rfl (by exact OA.out) (by exact RA.out) (by have h6:=HQ1.out;show _ * 40≤_;simp;omega) ?_;intro v1 w6 hO hK hf;obtain⟨A3,k3,rfl,hI6,hg6⟩:=FIR.out v1 w6 hO hK hf;have I6:=AS hI6;have n0_:w6.cell? ⟨g7,0,U⟩=M (V I nk):=cw hg6 0;have n1_:w6.cell? ⟨g7,1,U⟩=M (V I na):=cw hg6 1;have n2_:w6.cell? ⟨g7,2,U⟩=M (V I nb):=cw hg6 2;have n3_:w6.cell? ⟨g7,3,U⟩=M (V I nc):=cw hg6 3;have n4_:w6.cell? ⟨g7,4,U⟩=M (V I nd):=cw hg6 4;clear hO hK hf hI6 hg6) | fail)
     have ST:=AS (worldStep_any (e:=(⟨nk,na,nb,nc,nd⟩:Ent)) I6.out.1.wld (WOk.bounds HC.out HX.out.2.2.1 (by have:=HX.out.2.2.2.1;omega) rfl rfl rfl))
     simp only[entV] at ST
     clear m0_ m1_ m2_ m3_ m4_
     go_wp2_with fail
     refine ST.out.mono ?_
     rintro e w8 ⟨Ad,n8,cp8,rfl,hW8,-,hk8⟩
     have I8:=AS (I6.out.1.step hW8 hk8)
     have D8:=AS (hk8.at_ I6.out.2 I6.out.1.box)
     have OK8:=AS (show WOk c (s1.step c (⟨nk,na,nb,nc,nd⟩:Ent)).1/\(s1.step c (⟨nk,na,nb,nc,nd⟩:Ent)).1.steps=s1.steps+1 from⟨wok_step HC.out HX.out.2.2.1 (by have:=HX.out.2.2.2.1;omega) _,(tinv_step HC.out HX.out.2.2.1.t (by have:=HX.out.2.2.2.1;omega) _).2.2⟩)
     have hset:=HSET.out
     clear hW8 hk8 ST n0_ n1_ n2_ n3_ n4_ HSET
     generalize s1.step c (⟨nk,na,nb,nc,nd⟩:Ent)=SR at I8 OK8 hset ⊢
     obtain⟨s8,rk,dk⟩:=SR
     simp only at hset
     by_cases hrk:rk=2
     ·rw[if_pos hrk] at hset
      have HSET:=AS hset
      have hd:(rk == 2)=true:=by simp[hrk]
      have hd2:decide (rk=2)=true:=by simp[hrk]
      clear hset
      go_wp2
      go_ret2
      rw[<- HSET.out]
      refine⟨A3,k3,_,?_,I8.out,OK8.out.1,by have:=HX.out.2.2.2.1;have h9:s8.steps=s1.steps+1:=OK8.out.2;have h12:=HN.out;show s8.steps≤_;omega⟩
      simp
     ·rw[if_neg hrk] at hset
      have HSET:=AS hset
      have hd:(rk == 2)=false:=by simp[hrk]
      have hd2:decide (rk=2)=false:=by simp[hrk]
      clear hset
      go_wp2
      go_roundw
      case rel =>
       refine⟨out ++ [(⟨nk,na,nb,nc,nd⟩:Ent)],A3,k3,zB,by simp;have:=HQ1.out;omega,⟨s8,_,I8.out,D8.out,OK8.out.1,?_,?_⟩⟩
       ·have h9:s8.steps=s1.steps+1:=OK8.out.2
        have h10:=HX.out.2.2.2.1
        have h11:=HN.out
        simp only[xA,List.length_singleton]
        omega
       ·have h11:=HN.out
        rw[xA,List.length_singleton,show 65536 - (out.length+1)=n by omega]
        exact HSET.out
      case measure=>have:=HQ1.out;simp[lenOf];omega
   ·have G7:=AS (show((((((w2).setCell ⟨wr.heap.size,0,U⟩ (V I nk)).setCell ⟨wr.heap.size,1,U⟩ (V I na)).setCell ⟨wr.heap.size,2,U⟩ (V I nb)).setCell ⟨wr.heap.size,3,U⟩ (V I nc)).setCell ⟨wr.heap.size,4,U⟩ (V I nd)).heap[wr.heap.size]?=M (O #[V I nk,V I na,V I nb,V I nc,V I nd] 33 (0,0)) from by
     apply blk_as
     ·(repeat (with_reducible first | apply mA | apply nA | exact QF.out))
     ·simp)
    have BE:=AS (show Below wr.heap.size wr ((((((w2).setCell ⟨wr.heap.size,0,U⟩ (V I nk)).setCell ⟨wr.heap.size,1,U⟩ (V I na)).setCell ⟨wr.heap.size,2,U⟩ (V I nb)).setCell ⟨wr.heap.size,3,U⟩ (V I nc)).setCell ⟨wr.heap.size,4,U⟩ (V I nd)) from by (repeat (first | (with_reducible refine oA ?_ ?_ _;rotate_left;(focus (have z1:=H1.out.size;simp only[gB,iB] at z1 ⊢;omega))) | with_reducible apply eA | with_reducible apply iA | with_reducible exact fA _ _ | with_reducible refine bchain H2.out ?_ | with_reducible refine bchain H1.out ?_)))
    go_upto_region 4 with fail
    generalize (((((w2).setCell ⟨wr.heap.size,0,U⟩ (V I nk)).setCell ⟨wr.heap.size,1,U⟩ (V I na)).setCell ⟨wr.heap.size,2,U⟩ (V I nb)).setCell ⟨wr.heap.size,3,U⟩ (V I nc)).setCell ⟨wr.heap.size,4,U⟩ (V I nd)=wc at G7 BE ⊢
    clear q10_ q11_ q12_ q13_ q14_ q15_ q16_ q17_ q18_ q19_ q20_ q21_ q22_ q23_ q24_ q25_ q26_ q27_ q28_ q29_
    have HF7:=AS (show wr.heap.size∉foot (J A out.length cp) from fun e=>by have:=HX.out.1.own.lt _ e;have z1:=H1.out.size;have z2:=H2.out.size;simp only[gB,iB] at z1 z2;omega)
    generalize wr.heap.size=g7 at G7 HF7 ⊢
    have HQ1:=AS hc1
    clear e0_ e1_ e2_ q1 hc1
    obtain⟨n,hn⟩:∃ n,65536 - out.length=n+1:=⟨65535 - out.length,by have:=HQ1.out;omega⟩
    have hset:=HX.out.2.2.2.2
    rw[hn] at hset
    unfold settleN at hset
    rw[HNX.out] at hset
    simp only at hset
    have HN:=AS hn
    clear hn
    cases nok with
    | false =>
     simp only[if_true] at hset
     have HSET:=AS hset
     clear hset
     go_wp2
     go_ret2
     rw[<- HSET.out]
     exact⟨A,cp,F,rfl,HX.out.1.below BE.out,HX.out.2.2.1,by have:=HX.out.2.2.2.1;show s1.steps≤_;omega⟩
    | true =>
     simp only[Bool.true_eq_false,if_false] at hset
     have HSET:=AS hset
     clear hset
     have m0_:=cw G7.out 0 (v:=V I nk)
     have m1_:=cw G7.out 1 (v:=V I na)
     have m2_:=cw G7.out 2 (v:=V I nb)
     have m3_:=cw G7.out 3 (v:=V I nc)
     have m4_:=cw G7.out 4 (v:=V I nd)
     have I5:=AS ((HX.out.1.below BE.out).below (eA (fA wc.heap.size wc) (O #[V I nk,V I na,V I nb,V I nc,V I nd] 33)))
     have OA:=AS I5.out.own
     have RA:=AS (show RowE entE (wc.alloc (O #[V I nk,V I na,V I nb,V I nc,V I nd] 33)) (M ⟨wc.heap.size,0,U⟩) [(⟨nk,na,nb,nc,nd⟩:Ent)] from rowE_one (E:=entE) (x:=(⟨nk,na,nb,nc,nd⟩:Ent)) (nA wc (O #[V I nk,V I na,V I nb,V I nc,V I nd] 33)))
     have FIR:=AS (show ∀ v1 w6,OwnE entE v1 (out ++ [(⟨nk,na,nb,nc,nd⟩:Ent)]) w6->Keeps (foot (J A out.length cp)) (wc.alloc (O #[V I nk,V I na,V I nb,V I nc,V I nd] 33)) w6->(foot v1=foot (J A out.length cp)∨foot v1=[(wc.alloc (O #[V I nk,V I na,V I nb,V I nc,V I nd] 33)).heap.size])->∃ A3 k3,v1=J A3 (out.length+1) k3/\(SetI c s1 b (out ++ [(⟨nk,na,nb,nc,nd⟩:Ent)]) A3 k3 F0 w F w6/\w6.heap[w.heap.size]?=M (O #[V I d0,V I d1,V I d2] 74 (0,0)))/\w6.heap[g7]?=M (O #[V I nk,V I na,V I nb,V I nc,V I nd] 33 (0,0)) from by
      intro v1 w6 hO hK hf
      have hk3:KS (fun x=>x∈foot (J A out.length cp)) (wc.alloc (O #[V I nk,V I na,V I nb,V I nc,V I nd] 33)) w6:=KS.keeps hK
      obtain⟨A3,k3,hv,-⟩:=hO.row
      have hv':v1=J A3 (out.length+1) k3:=by rw[hv];simp
      subst hv'
      have hbig:=I5.out.big
      have hown:=(HX.out.1.below BE.out).own
      refine⟨A3,k3,rfl,⟨I5.out.more hO hk3 (fun x hx=>?_),hk3.at_ (lA (kA HX.out.2.1 BE.out) _) (fun e=>by have:=(I5.out.far _ e).2;omega)⟩,hk3.at_ (lA G7.out _) (fun e=>HF7.out e)⟩
      rcases hf with e | e
      ·exact .inl (by rw[e] at hx;exact hx)
      ·exact .inr (by rw[e] at hx;simp only[tA] at hx;omega))
     go_upto_region 7 with (first | (at_builtin;refine list_appE (E:=entE) (xs:=out) (ys:=[(⟨nk,na,nb,nc,nd⟩:Ent)]) xB _ _ rfl rfl rfl rfl (by exact OA.out) (by exact RA.out) (by have h6:=HQ1.out;show _ * 40≤_;simp;omega) ?_;intro v1 w6 hO hK hf;obtain⟨A3,k3,rfl,hI6,hg6⟩:=FIR.out v1 w6 hO hK hf;have I6:=AS hI6;have n0_:w6.cell? ⟨g7,0,U⟩=M (V I nk):=cw hg6 0;have n1_:w6.cell? ⟨g7,1,U⟩=M (V I na):=cw hg6 1;have n2_:w6.cell? ⟨g7,2,U⟩=M (V I nb):=cw hg6 2;have n3_:w6.cell? ⟨g7,3,U⟩=M (V I nc):=cw hg6 3;have n4_:w6.cell? ⟨g7,4,U⟩=M (V I nd):=cw hg6 4;clear hO hK hf hI6 hg6) | fail)
     have ST:=AS (worldStep_any (e:=(⟨nk,na,nb,nc,nd⟩:Ent)) I6.out.1.wld (WOk.bounds HC.out HX.out.2.2.1 (by have:=HX.out.2.2.2.1;omega) rfl rfl rfl))
     simp only[entV] at ST
     clear m0_ m1_ m2_ m3_ m4_
     go_wp2_with fail
     refine ST.out.mono ?_
     rintro e w8 ⟨Ad,n8,cp8,rfl,hW8,-,hk8⟩
     have I8:=AS (I6.out.1.step hW8 hk8)
     have D8:=AS (hk8.at_ I6.out.2 I6.out.1.box)
     have OK8:=AS (show WOk c (s1.step c (⟨nk,na,nb,nc,nd⟩:Ent)).1/\(s1.step c (⟨nk,na,nb,nc,nd⟩:Ent)).1.steps=s1.steps+1 from⟨wok_step HC.out HX.out.2.2.1 (by have:=HX.out.2.2.2.1;omega) _,(tinv_step HC.out HX.out.2.2.1.t (by have:=HX.out.2.2.2.1;omega) _).2.2⟩)
     have hset:=HSET.out
     clear hW8 hk8 ST n0_ n1_ n2_ n3_ n4_ HSET
     generalize s1.step c (⟨nk,na,nb,nc,nd⟩:Ent)=SR at I8 OK8 hset ⊢
     obtain⟨s8,rk,dk⟩:=SR
     simp only at hset
     by_cases hrk:rk=2
     ·rw[if_pos hrk] at hset
      have HSET:=AS hset
      have hd:(rk == 2)=true:=by simp[hrk]
      have hd2:decide (rk=2)=true:=by simp[hrk]
      clear hset
      go_wp2
      go_ret2
      rw[<- HSET.out]
      refine⟨A3,k3,_,?_,I8.out,OK8.out.1,by have:=HX.out.2.2.2.1;have h9:s8.steps=s1.steps+1:=OK8.out.2;have h12:=HN.out;show s8.steps≤_;omega⟩
      simp
     ·rw[if_neg hrk] at hset
      have HSET:=AS hset
      have hd:(rk == 2)=false:=by simp[hrk]
      have hd2:decide (rk=2)=false:=by simp[hrk]
      clear hset
      go_wp2
      go_roundw
      case rel =>
       refine⟨out ++ [(⟨nk,na,nb,nc,nd⟩:Ent)],A3,k3,zB,by simp;have:=HQ1.out;omega,⟨s8,_,I8.out,D8.out,OK8.out.1,?_,?_⟩⟩
       ·have h9:s8.steps=s1.steps+1:=OK8.out.2
        have h10:=HX.out.2.2.2.1
        have h11:=HN.out
        simp only[xA,List.length_singleton]
        omega
       ·have h11:=HN.out
        rw[xA,List.length_singleton,show 65536 - (out.length+1)=n by omega]
        exact HSET.out
      case measure=>have:=HQ1.out;simp[lenOf];omega
  ·have q1:¬ ((out.length:Int) < 65536):=vB
   have hset:=HX.out.2.2.2.2
   rw[show 65536 - out.length=0 by omega] at hset
   unfold settleN at hset
   rw[HNX.out] at hset
   have HSET:=AS hset
   have HQ2:=AS hc1
   clear hset hc1
   go_upto_region 10 with fail
   go_region_held3 (fun x=>x.cell? ⟨w.heap.size,0,U⟩=M (V I d0)/\x.cell? ⟨w.heap.size,1,U⟩=M (V I d1)/\x.cell? ⟨w.heap.size,2,U⟩=M (V I d2)) ((refine KEEP.out _ ?_;(repeat (first | (with_reducible refine oA ?_ ?_ _;rotate_left;(focus (have z1:=H1.out.size;simp only[gB,iB] at z1 ⊢;omega))) | with_reducible apply eA | with_reducible apply iA | with_reducible exact fA _ _ | with_reducible refine bchain H2.out ?_ | with_reducible refine bchain H1.out ?_)))) ((first | (go_at_call 10;refine(NC.out _ ?_).mono ?_;(focus ((repeat (with_reducible first | apply eA | apply iA | exact fA _ _))));rintro e w1 ⟨Ap,Ah,Af,np,cpp,nh,ch,nf,cf,rfl,hb,hN⟩;have H1:=AS hb;have N1:=AS hN;clear hb hN;have hsz:=H1.out.size;(first | rw[gB] at hsz | rw[iB,gB] at hsz);clear hsz;have QF:Aside0 (w1.heap[wr.heap.size]?=M (O #[V I 0,V I 0,V I 0,V I 0,V I 0] 33 (0,0))):=AS (zblkED (Y:=wr) (F:=w1) H1.out);obtain⟨q10_,q11_,q12_,q13_,q14_,q15_,q16_,q17_,q18_,q19_⟩:=ZF.out _ _ QF.out) | (go_at_call 10;refine(NC.out _ ?_).mono ?_;(focus ((repeat (with_reducible first | apply eA | apply iA | exact fA _ _))));rintro e w1 ⟨Ap,Ah,Af,np,cpp,nh,ch,nf,cf,rfl,hb,hN⟩;have H1:=AS hb;have N1:=AS hN;clear hb hN) | (go_at_call 70;refine(N1.out _ ?_).mono ?_;(focus ((repeat (with_reducible first | apply eA | apply iA | exact fA _ _))));rintro e w2 ⟨rfl,hb⟩;have H2:=AS hb;clear hb;simp only[entV];have QF:Aside0 (w2.heap[wr.heap.size]?=M (O #[V I 0,V I 0,V I 0,V I 0,V I 0] 33 (0,0))):=AS (kA QF.out H2.out);obtain⟨q20_,q21_,q22_,q23_,q24_,q25_,q26_,q27_,q28_,q29_⟩:=ZF.out _ _ QF.out) | (go_at_call 70;refine(N1.out _ ?_).mono ?_;(focus ((repeat (with_reducible first | apply eA | apply iA | exact fA _ _))));rintro e w2 ⟨rfl,hb⟩;have H2:=AS hb;clear hb;simp only[entV];have hsz:=H2.out.size;(first | rw[gB] at hsz | rw[iB,gB] at hsz);clear hsz;have QF:Aside0 (w2.heap[w1.heap.size]?=M (O #[V I 0,V I 0,V I 0,V I 0,V I 0] 33 (0,0))):=AS (zblkE (Y:=w1) (F:=w2) H2.out);obtain⟨q20_,q21_,q22_,q23_,q24_,q25_,q26_,q27_,q28_,q29_⟩:=ZF.out _ _ QF.out) | (go_at_call 70;refine(N1.out _ ?_).mono ?_;(focus ((repeat (with_reducible first | apply eA | apply iA | exact fA _ _))));rintro e w2 ⟨rfl,hb⟩;have H2:=AS hb;clear hb;simp only[entV])))
   ·have BE:=AS (show Below wr.heap.size wr (w2.alloc (O #[V I nk,V I na,V I nb,V I nc,V I nd] 33)) from by (repeat (first | (with_reducible refine oA ?_ ?_ _;rotate_left;(focus (have z1:=H1.out.size;simp only[gB,iB] at z1 ⊢;omega))) | with_reducible apply eA | with_reducible apply iA | with_reducible exact fA _ _ | with_reducible refine bchain H2.out ?_ | with_reducible refine bchain H1.out ?_)))
    go_upto_region 11 with fail
    generalize w2.alloc (O #[V I nk,V I na,V I nb,V I nc,V I nd] 33)=wc at BE ⊢
    skip
    clear e0_ e1_ e2_
    go_wp2
    all_goals
     go_ret2
     rw[<- HSET.out]
     exact⟨A,cp,F,rfl,HX.out.1.below BE.out,HX.out.2.2.1,by have:=HX.out.2.2.2.1;show s1.steps≤_;omega⟩
   ·have BE:=AS (show Below wr.heap.size wr ((((((w2).setCell ⟨w1.heap.size,0,U⟩ (V I nk)).setCell ⟨w1.heap.size,1,U⟩ (V I na)).setCell ⟨w1.heap.size,2,U⟩ (V I nb)).setCell ⟨w1.heap.size,3,U⟩ (V I nc)).setCell ⟨w1.heap.size,4,U⟩ (V I nd)) from by (repeat (first | (with_reducible refine oA ?_ ?_ _;rotate_left;(focus (have z1:=H1.out.size;simp only[gB,iB] at z1 ⊢;omega))) | with_reducible apply eA | with_reducible apply iA | with_reducible exact fA _ _ | with_reducible refine bchain H2.out ?_ | with_reducible refine bchain H1.out ?_)))
    go_upto_region 11 with fail
    generalize (((((w2).setCell ⟨w1.heap.size,0,U⟩ (V I nk)).setCell ⟨w1.heap.size,1,U⟩ (V I na)).setCell ⟨w1.heap.size,2,U⟩ (V I nb)).setCell ⟨w1.heap.size,3,U⟩ (V I nc)).setCell ⟨w1.heap.size,4,U⟩ (V I nd)=wc at BE ⊢
    clear q20_ q21_ q22_ q23_ q24_ q25_ q26_ q27_ q28_ q29_
    clear e0_ e1_ e2_
    go_wp2
    all_goals
     go_ret2
     rw[<- HSET.out]
     exact⟨A,cp,F,rfl,HX.out.1.below BE.out,HX.out.2.2.1,by have:=HX.out.2.2.2.1;show s1.steps≤_;omega⟩
   ·have BE:=AS (show Below wr.heap.size wr ((((((w2).setCell ⟨wr.heap.size,0,U⟩ (V I nk)).setCell ⟨wr.heap.size,1,U⟩ (V I na)).setCell ⟨wr.heap.size,2,U⟩ (V I nb)).setCell ⟨wr.heap.size,3,U⟩ (V I nc)).setCell ⟨wr.heap.size,4,U⟩ (V I nd)) from by (repeat (first | (with_reducible refine oA ?_ ?_ _;rotate_left;(focus (have z1:=H1.out.size;simp only[gB,iB] at z1 ⊢;omega))) | with_reducible apply eA | with_reducible apply iA | with_reducible exact fA _ _ | with_reducible refine bchain H2.out ?_ | with_reducible refine bchain H1.out ?_)))
    go_upto_region 11 with fail
    generalize (((((w2).setCell ⟨wr.heap.size,0,U⟩ (V I nk)).setCell ⟨wr.heap.size,1,U⟩ (V I na)).setCell ⟨wr.heap.size,2,U⟩ (V I nb)).setCell ⟨wr.heap.size,3,U⟩ (V I nc)).setCell ⟨wr.heap.size,4,U⟩ (V I nd)=wc at BE ⊢
    clear q10_ q11_ q12_ q13_ q14_ q15_ q16_ q17_ q18_ q19_ q20_ q21_ q22_ q23_ q24_ q25_ q26_ q27_ q28_ q29_
    clear e0_ e1_ e2_
    go_wp2
    all_goals
     go_ret2
     rw[<- HSET.out]
     exact⟨A,cp,F,rfl,HX.out.1.below BE.out,HX.out.2.2.1,by have:=HX.out.2.2.2.1;show s1.steps≤_;omega⟩
def scriptN (c:Cfg) (d:Drw):List Ent->S.World->List Ent->List Ent×Bool
 | [],s,out=>(out,true)
 | x :: xs,s,out=>if (settleN c d 65536 (s.step c x).1 []).2.2 then scriptN c d xs (settleN c d 65536 (s.step c x).1 []).1 (out ++ [x] ++ (settleN c d 65536 (s.step c x).1 []).2.1) else (out ++ [x] ++ (settleN c d 65536 (s.step c x).1 []).2.1,false)
theorem settleN_steps {c:Cfg} (hc:c.check=0) (d:Drw):∀ (n:Nat) (s:S.World) (out:List Ent),WOk c s->s.steps+n≤1000000->(settleN c d n s out).1.steps≤s.steps+n/\(settleN c d n s out).2.1.length≤out.length+n
 | 0,s,out,h,hs=>⟨by show s.steps≤_;omega,pA _⟩
 | n+1,s,out,h,hs=>by
  have h1:=(tinv_step hc h.t (by have:=h.t.st;omega) (nextS s d).1).2.2
  have h2:=wok_step hc h vB (nextS s d).1
  have ih:=settleN_steps hc d n (s.step c (nextS s d).1).1 (out ++ [(nextS s d).1]) h2 (by rw[h1];omega)
  unfold settleN
  split
  ·exact⟨by show s.steps≤_;omega,Nat.le_add_right _ _⟩
  ·split
   ·exact⟨by show(s.step c (nextS s d).1).1.steps≤_;rw[h1];omega,zB⟩
   ·rw[h1] at ih
    simp only[xA,List.length_singleton] at ih
    exact⟨by have:=ih.1;omega,by have:=ih.2;omega⟩
section
variable {c:Cfg} {s s':S.World} {b:Nat} {out more:List Ent} {A A':Option Addr} {cp cp':Nat} {F0 F F':Set_} {w0 w w' w3:cA}
theorem SetI.settled (h:SetI c s b out A cp F0 w0 F w) (h':SetI c s' b more A' cp' F w F' w'):SetI c s' b out A cp F0 w0 F' w':=by
 have hz:=h.big
 have hz2:=h'.ks.size
 have hlt:=h.own.lt
 exact⟨h'.wld,h.own.ks h'.ks (fun x hx=>(h.far x hx).1),fun x hx=>⟨fun e=>(h.far x hx).1 (h'.old x (hlt x hx) e),(h.far x hx).2⟩,fun x hx e=>h.old x hx (h'.old x vB e),fun e=>h.box (h'.old _ hz e),h'.top,h.ks.trans h'.ks (fun x hx e=>h.old x hx e),vB⟩
theorem SetI.moreL {l:List Ent} (h:SetI c s b out A cp F0 w0 F w) (hO:OwnE entE (J A' (out ++ l).length cp') (out ++ l) w3) (hk:KS (fun x=>x∈foot (J A out.length cp)) w w3) (hf:∀ x∈foot (J A' (out ++ l).length cp'),x∈foot (J A out.length cp)∨(w.heap.size≤x/\w0.heap.size < x)):SetI c s b (out ++ l) A' cp' F0 w0 F w3:=by
 refine⟨h.wld.keep hk (fun x _ hx=>⟨hx,fun e=>(h.far x e).1 hx⟩),hO,?_,h.old,h.box,fun x hx=>h.top x (lB hk.size hx),h.ks.trans hk (fun x hx e=>by have:=(h.far x e).2;omega),Nat.lt_of_lt_of_le h.big hk.size⟩
 intro x hx
 rcases hf x hx with e | e
 ·exact h.far x e
 ·exact⟨h.top x e.1,e.2⟩
end
theorem script_any {c:Cfg} {w:cA} (hc:c.check=0) (d0 d1 d2:Int) (ops:List Ent) {Ao:Option Addr} {co:Nat} (hO:OwnE entE (J Ao ops.length co) ops w) (hl:ops.length≤12) :
  bB dA 13 #[cfgV c,.agg #[V I d0,V I d1,V I d2],J Ao ops.length co] w fun e w'=>∃ A cp,e=.returned (.tuple #[J A (scriptN c ⟨d0,d1,d2⟩ ops (S.World.new c) []).1.length cp,aA (scriptN c ⟨d0,d1,d2⟩ ops (S.World.new c) []).2])/\OwnE entE (J A (scriptN c ⟨d0,d1,d2⟩ ops (S.World.new c) []).1.length cp) (scriptN c ⟨d0,d1,d2⟩ ops (S.World.new c) []).1 w'/\Below w.heap.size w w':=by
 have HC:=AS hc
 have NW:=AS (fun X=>worldNew_any c hc X)
 have OP:=AS hO
 have HWN:=AS (wok_new hc)
 have BN:=AS (lA (nA w (O #[V I c.nodes,V I c.blocks,V I c.tokens,V I c.sets,V I c.ways,V I c.cap,V I c.wait,V I c.tries,V I c.policy] 23)) (O #[V I d0,V I d1,V I d2] 74))
 have BD:=AS (show((w.alloc (O #[V I c.nodes,V I c.blocks,V I c.tokens,V I c.sets,V I c.ways,V I c.cap,V I c.wait,V I c.tries,V I c.policy] 23)).alloc (O #[V I d0,V I d1,V I d2] 74)).heap[w.heap.size+1]?=M (O #[V I d0,V I d1,V I d2] 74 (0,0)) from blk_newE _ _ (by rw[rA]))
 have B0:=AS (eA (fA (w.alloc (O #[V I c.nodes,V I c.blocks,V I c.tokens,V I c.sets,V I c.ways,V I c.cap,V I c.wait,V I c.tries,V I c.policy] 23)).heap.size (w.alloc (O #[V I c.nodes,V I c.blocks,V I c.tokens,V I c.sets,V I c.ways,V I c.cap,V I c.wait,V I c.tries,V I c.policy] 23))) (O #[V I d0,V I d1,V I d2] 74))
 have BW:=AS (eA (fA w.heap.size w) (O #[V I c.nodes,V I c.blocks,V I c.tokens,V I c.sets,V I c.ways,V I c.cap,V I c.wait,V I c.tries,V I c.policy] 23))
 have SZ0:=AS (gB w (O #[V I c.nodes,V I c.blocks,V I c.tokens,V I c.sets,V I c.ways,V I c.cap,V I c.wait,V I c.tries,V I c.policy] 23))
 have SZ:=AS (show((w.alloc (O #[V I c.nodes,V I c.blocks,V I c.tokens,V I c.sets,V I c.ways,V I c.cap,V I c.wait,V I c.tries,V I c.policy] 23)).alloc (O #[V I d0,V I d1,V I d2] 74)).heap.size=w.heap.size+2 from by rw[rA,rA])
 obtain⟨R,hR⟩:∃ R,scriptN c ⟨d0,d1,d2⟩ ops (S.World.new c) []=R:=⟨_,rfl⟩
 rw[hR]
 have HR:=AS hR
 clear hO hc hR
 simp only[cfgV] at NW ⊢
 go_enter Tryz.func13,Tryz.ntmps13
 go_upto_region 1 with fail
 generalize (w.alloc (O #[V I c.nodes,V I c.blocks,V I c.tokens,V I c.sets,V I c.ways,V I c.cap,V I c.wait,V I c.tries,V I c.policy] 23)).alloc (O #[V I d0,V I d1,V I d2] 74)=W at BN BD B0 SZ ⊢
 obtain⟨e0_,e1_,e2_,e3_,e4_,e5_,e6_,e7_,e8_⟩:=(show W.cell? ⟨w.heap.size,0,U⟩=M (V I c.nodes)/\W.cell? ⟨w.heap.size,1,U⟩=M (V I c.blocks)/\W.cell? ⟨w.heap.size,2,U⟩=M (V I c.tokens)/\W.cell? ⟨w.heap.size,3,U⟩=M (V I c.sets)/\W.cell? ⟨w.heap.size,4,U⟩=M (V I c.ways)/\W.cell? ⟨w.heap.size,5,U⟩=M (V I c.cap)/\W.cell? ⟨w.heap.size,6,U⟩=M (V I c.wait)/\W.cell? ⟨w.heap.size,7,U⟩=M (V I c.tries)/\W.cell? ⟨w.heap.size,8,U⟩=M (V I c.policy) from⟨cw BN.out 0,cw BN.out 1,cw BN.out 2,cw BN.out 3,cw BN.out 4,cw BN.out 5,cw BN.out 6,cw BN.out 7,cw BN.out 8⟩)
 go_wp2_with fail
 refine(NW.out W).mono ?_
 rintro e w1 ⟨b,rfl,hW1,hb1⟩
 have R0:=AS (show(∃ s F,SetI c s b ([]:List Ent) U 0 (fun _=>False) (w.alloc (O #[V I c.nodes,V I c.blocks,V I c.tokens,V I c.sets,V I c.ways,V I c.cap,V I c.wait,V I c.tries,V I c.policy] 23)) F w1/\w1.heap[w.heap.size+1]?=M (O #[V I d0,V I d1,V I d2] 74 (0,0))/\WOk c s/\s.steps≤(0:Nat) * 65537/\([]:List Ent).length≤0 * 65537/\scriptN c ⟨d0,d1,d2⟩ (ops.drop 0) s ([]:List Ent)=R) from by
  have z0:=SZ0.out
  have z1:=SZ.out
  have z2:=hb1.size
  refine⟨S.World.new c,fun x=>W.heap.size≤x/\x < w1.heap.size,⟨hW1.keep (qB (fun _=>False) _) (fun x hx h=>⟨⟨h,hx⟩,id⟩),OwnE.nil _,fun x hx=>by simp[foot_nil] at hx,fun x hx h=>by have:=h.1;omega,fun h=>by have:=h.1;omega,fun x hx h=>by have:=h.2;omega,(pB _ B0.out).andBelow hb1,vB⟩,kA BD.out hb1,HWN.out,by show(0:Int)≤_;omega,Nat.zero_le _,HR.out⟩)
 clear hW1 hb1 NW e0_ e1_ e2_ e3_ e4_ e5_ e6_ e7_ e8_
 go_wp2_with fail
 go_loopw [10,12,13,14,24] (fun v10 v12 v13 v14 v24 wr=>∃ (i:Nat) (out:List Ent) (A:Option Addr) (cp:Nat),v24=V I i/\i≤ops.length/\v10=J A out.length cp/\Aside0 (∃ s F,SetI c s b out A cp (fun _=>False) (w.alloc (O #[V I c.nodes,V I c.blocks,V I c.tokens,V I c.sets,V I c.ways,V I c.cap,V I c.wait,V I c.tries,V I c.policy] 23)) F wr/\wr.heap[w.heap.size+1]?=M (O #[V I d0,V I d1,V I d2] 74 (0,0))/\WOk c s/\s.steps≤(i:Nat) * 65537/\out.length≤i * 65537/\scriptN c ⟨d0,d1,d2⟩ (ops.drop i) s out=R)) (fun _ _ _ _ v24 _=>ops.length+1 - (intOf v24).toNat)
 case atStart=>exact⟨0,[],U,0,rfl,vB,rfl,R0⟩
 case round =>
  obtain⟨i,out,A,cp,rfl,hi,rfl,RR⟩:=hrel
  obtain⟨s,F,hI,hbx,hok,hst,hol,hset⟩:=RR.out
  have hbel:Below w.heap.size w wr:=BW.out.trans ((hI.ks.toBelow (B:=(w.alloc (O #[V I c.nodes,V I c.blocks,V I c.tokens,V I c.sets,V I c.ways,V I c.cap,V I c.wait,V I c.tries,V I c.policy] 23)).heap.size) (fun x h=>h.elim) (pA _)).mono (by have:=SZ0.out;omega))
  by_cases hcc:i < ops.length
  ·have q0:(0:Int)≤(i:Int):=vB
   have q1:(i:Int) < (ops.length:Int):=vB
   obtain⟨gl,cl,e,-,-,hgl,hcell⟩:=own_some OP.out hcc
   injection e with e1 e2 e3
   subst e1 e3
   have hdr:ops.drop i=ops.getD i ent0 :: ops.drop (i+1):=by rw[List.drop_eq_getElem_cons hcc,cB,dB hcc];rfl
   rw[hdr] at hset
   have m0:wr.cell? ⟨gl,i * 5,U⟩=M (V I (ops.getD i ent0).kind):=((bcell hbel).1 gl _ hgl).trans ((hcell 0 yB).trans rfl)
   have m1:wr.cell? ⟨gl,i * 5+1,U⟩=M (V I (ops.getD i ent0).a):=((bcell hbel).1 gl _ hgl).trans ((hcell 1 yB).trans rfl)
   have m2:wr.cell? ⟨gl,i * 5+2,U⟩=M (V I (ops.getD i ent0).b):=((bcell hbel).1 gl _ hgl).trans ((hcell 2 yB).trans rfl)
   have m3:wr.cell? ⟨gl,i * 5+3,U⟩=M (V I (ops.getD i ent0).c):=((bcell hbel).1 gl _ hgl).trans ((hcell 3 yB).trans rfl)
   have m4:wr.cell? ⟨gl,i * 5+4,U⟩=M (V I (ops.getD i ent0).d):=((bcell hbel).1 gl _ hgl).trans ((hcell 4 yB).trans rfl)
   generalize ops.getD i ent0=en at m0 m1 m2 m3 m4 hset
   obtain⟨k_,a_,b_,c_,d_⟩:=en
   simp only at m0 m1 m2 m3 m4
   have I1:=AS (hI.below (eA (fA wr.heap.size wr) (O #[V I k_,V I a_,V I b_,V I c_,V I d_] 33)))
   have G1:=AS (nA wr (O #[V I k_,V I a_,V I b_,V I c_,V I d_] 33))
   have D1:=AS (lA hbx (O #[V I k_,V I a_,V I b_,V I c_,V I d_] 33))
   have hi12:i≤12:=vB
   have ST:=AS (worldStep_any (e:=(⟨k_,a_,b_,c_,d_⟩:Ent)) I1.out.wld (WOk.bounds HC.out hok vB rfl rfl rfl))
   have OK1:=AS (show WOk c (s.step c (⟨k_,a_,b_,c_,d_⟩:Ent)).1/\(s.step c (⟨k_,a_,b_,c_,d_⟩:Ent)).1.steps=s.steps+1 from⟨wok_step HC.out hok vB _,(tinv_step HC.out hok.t vB _).2.2⟩)
   have HX:=AS (qA hst (qA hol hset))
   have TP:=AS (hI.top wr.heap.size (pA _))
   simp only[entV] at ST
   clear hI hbx hok hst hol hset hbel hcell hdr hgl
   go_wp2_with fail
   refine ST.out.mono ?_
   rintro e w3 ⟨Ad,n8,cp8,rfl,hW8,-,hk8⟩
   have hsa:=gB wr (O #[V I k_,V I a_,V I b_,V I c_,V I d_] 33)
   have I3:=AS (I1.out.step hW8 hk8)
   have D3:=AS (hk8.at_ D1.out (fun e=>I1.out.box (by rw[SZ0.out];exact e)))
   have G3:=AS (hk8.at_ G1.out (fun e=>TP.out e))
   have hf3:¬ (F wr.heap.size∨((wr.alloc (O #[V I k_,V I a_,V I b_,V I c_,V I d_] 33)).heap.size≤wr.heap.size/\wr.heap.size < w3.heap.size)):=fun e=>by
    rcases e with e | e
    ·exact TP.out e
    ·omega
   have HF3:=AS (show ¬ (fun x=>F x∨((wr.alloc (O #[V I k_,V I a_,V I b_,V I c_,V I d_] 33)).heap.size≤x/\x < w3.heap.size)) wr.heap.size from hf3)
   clear hf3 hsa hW8 hk8 ST m0 m1 m2 m3 m4
   generalize hSR:s.step c (⟨k_,a_,b_,c_,d_⟩:Ent)=SR at I3 OK1 ⊢
   obtain⟨s3,rk,dk⟩:=SR
   have HSR:=AS hSR
   clear hSR
   have hset:=HX.out.2.2
   unfold scriptN at hset
   rw[HSR.out] at hset
   simp only at hset
   have hst3:s3.steps=s.steps+1:=OK1.out.2
   have SS:=AS (settleN_steps HC.out ⟨d0,d1,d2⟩ 65536 s3 [] OK1.out.1 (by have:=HX.out.1;omega))
   have SE:=AS (settle_any HC.out OK1.out.1 (show s3.steps≤900000 by have:=HX.out.1;omega) I3.out.wld d0 d1 d2 _ rfl)
   generalize settleN c ⟨d0,d1,d2⟩ 65536 s3 []=R1 at SE SS hset
   obtain⟨s4,more,fine⟩:=R1
   have HSET:=AS hset
   clear hset hst3
   generalize (fun x=>F x∨((wr.alloc (O #[V I k_,V I a_,V I b_,V I c_,V I d_] 33)).heap.size≤x/\x < w3.heap.size))=F3 at I3 SE HF3
   have v0_:=cw D3.out 0 (v:=V I d0)
   have v1_:=cw D3.out 1 (v:=V I d1)
   have v2_:=cw D3.out 2 (v:=V I d2)
   go_wp2_with fail
   refine SE.out.mono ?_
   rintro e w4 ⟨A',cp',F4,rfl,hI',hok4,hst4⟩
   have I4:=AS (I3.out.settled hI')
   have M4:=AS hI'
   have OK4:=AS hok4
   have D4:=AS (hI'.ks.at_ D3.out (fun e=>I3.out.box (by rw[SZ0.out];exact e)))
   have G4:=AS (hI'.ks.at_ G3.out HF3.out)
   have n0_:=cw G4.out 0 (v:=V I k_)
   have n1_:=cw G4.out 1 (v:=V I a_)
   have n2_:=cw G4.out 2 (v:=V I b_)
   have n3_:=cw G4.out 3 (v:=V I c_)
   have n4_:=cw G4.out 4 (v:=V I d_)
   clear hI' hok4 hst4 SE v0_ v1_ v2_
   have I5:=AS (I4.out.below (eA (fA w4.heap.size w4) (O #[V I k_,V I a_,V I b_,V I c_,V I d_] 33)))
   have OA:=AS I5.out.own
   have RA:=AS (show RowE entE (w4.alloc (O #[V I k_,V I a_,V I b_,V I c_,V I d_] 33)) (M ⟨w4.heap.size,0,U⟩) [(⟨k_,a_,b_,c_,d_⟩:Ent)] from rowE_one (E:=entE) (x:=(⟨k_,a_,b_,c_,d_⟩:Ent)) (nA w4 (O #[V I k_,V I a_,V I b_,V I c_,V I d_] 33)))
   have HOL:=AS (show out.length≤786444 from by have h:=HX.out.2.1;exact lB h vB)
   have HML:=AS (show more.length≤65536 from by have:=SS.out.2;simpa using this)
   have APT:=AS (show ∀ x∈foot (J A' more.length cp'),x∉foot (J A out.length cp) from fun x hx e=>by have h1:=(M4.out.far x hx).2;have h2:=I3.out.own.lt x e;omega)
   have hb4:=I4.out.big
   have hs45:=gB w4 (O #[V I k_,V I a_,V I b_,V I c_,V I d_] 33)
   have FIR:=AS (show ∀ v1 w6,OwnE entE v1 (out ++ [(⟨k_,a_,b_,c_,d_⟩:Ent)]) w6->Keeps (foot (J A out.length cp)) (w4.alloc (O #[V I k_,V I a_,V I b_,V I c_,V I d_] 33)) w6->(foot v1=foot (J A out.length cp)∨foot v1=[(w4.alloc (O #[V I k_,V I a_,V I b_,V I c_,V I d_] 33)).heap.size])->∃ A3 k3,v1=J A3 (out ++ [(⟨k_,a_,b_,c_,d_⟩:Ent)]).length k3/\(SetI c s4 b (out ++ [(⟨k_,a_,b_,c_,d_⟩:Ent)]) A3 k3 (fun _=>False) (w.alloc (O #[V I c.nodes,V I c.blocks,V I c.tokens,V I c.sets,V I c.ways,V I c.cap,V I c.wait,V I c.tries,V I c.policy] 23)) F4 w6/\(∀ x∈foot (J A3 (out ++ [(⟨k_,a_,b_,c_,d_⟩:Ent)]).length k3),x∉foot (J A' more.length cp'))/\KS (fun x=>x∈foot (J A out.length cp)) (w4.alloc (O #[V I k_,V I a_,V I b_,V I c_,V I d_] 33)) w6/\OwnE entE (J A' more.length cp') more w6)/\RowE entE w6 A' more from by
    intro v1 w6 hO hK hf
    have hk3:KS (fun x=>x∈foot (J A out.length cp)) (w4.alloc (O #[V I k_,V I a_,V I b_,V I c_,V I d_] 33)) w6:=KS.keeps hK
    obtain⟨A3,k3,hv,-⟩:=hO.row
    subst hv
    have hOm:OwnE entE (J A' more.length cp') more w6:=(M4.out.own.ks (pB (fun _=>False) (eA (fA w4.heap.size w4) (O #[V I k_,V I a_,V I b_,V I c_,V I d_] 33))) (fun _ _=>id)).ks hk3 (fun x hx e=>APT.out x hx e)
    have hmlt:=M4.out.own.lt
    have hf':∀ x∈foot (J A3 (out ++ [(⟨k_,a_,b_,c_,d_⟩:Ent)]).length k3),x∈foot (J A out.length cp)∨(w4.alloc (O #[V I k_,V I a_,V I b_,V I c_,V I d_] 33)).heap.size≤x:=fun x hx=>by
     rcases hf with e | e
     ·exact .inl (by rw[e] at hx;exact hx)
     ·exact .inr (by rw[e] at hx;simp only[tA] at hx;omega)
    refine⟨A3,k3,rfl,⟨I5.out.moreL hO hk3 (fun x hx=>(hf' x hx).imp id (fun e=>⟨e,vB⟩)),fun x hx e=>?_,hk3,hOm⟩,?_⟩
    ·rcases hf' x hx with h | h
     ·exact APT.out x e h
     ·have:=hmlt x e;omega
    ·obtain⟨A9,c9,e9,hr9,-⟩:=hOm.row
     injection e9 with e1 e2 e3
     subst e1
     exact hr9)
   have FIR2:=AS (show ∀ A3 k3 w6,SetI c s4 b (out ++ [(⟨k_,a_,b_,c_,d_⟩:Ent)]) A3 k3 (fun _=>False) (w.alloc (O #[V I c.nodes,V I c.blocks,V I c.tokens,V I c.sets,V I c.ways,V I c.cap,V I c.wait,V I c.tries,V I c.policy] 23)) F4 w6->KS (fun x=>x∈foot (J A out.length cp)) (w4.alloc (O #[V I k_,V I a_,V I b_,V I c_,V I d_] 33)) w6->∀ v1 w7,OwnE entE v1 ((out ++ [(⟨k_,a_,b_,c_,d_⟩:Ent)]) ++ more) w7->Keeps (foot (J A3 (out.length+1) k3)) w6 w7->(foot v1=foot (J A3 (out.length+1) k3)∨foot v1=[w6.heap.size])->∃ A4 k4,v1=J A4 ((out ++ [(⟨k_,a_,b_,c_,d_⟩:Ent)]) ++ more).length k4/\SetI c s4 b ((out ++ [(⟨k_,a_,b_,c_,d_⟩:Ent)]) ++ more) A4 k4 (fun _=>False) (w.alloc (O #[V I c.nodes,V I c.blocks,V I c.tokens,V I c.sets,V I c.ways,V I c.cap,V I c.wait,V I c.tries,V I c.policy] 23)) F4 w7/\w7.heap[w.heap.size+1]?=M (O #[V I d0,V I d1,V I d2] 74 (0,0)) from by
    intro A3 k3 w6 hI6 hk6 v1 w7 hO hK hf
    have hlen:out.length+1=(out ++ [(⟨k_,a_,b_,c_,d_⟩:Ent)]).length:=by simp
    rw[hlen] at hK hf
    have hk3:KS (fun x=>x∈foot (J A3 (out ++ [(⟨k_,a_,b_,c_,d_⟩:Ent)]).length k3)) w6 w7:=KS.keeps hK
    obtain⟨A4,k4,hv,-⟩:=hO.row
    subst hv
    have hb6:=hI6.big
    have hz0:=SZ0.out
    refine⟨A4,k4,rfl,hI6.moreL hO hk3 (fun x hx=>?_),hk3.at_ (hk6.at_ (lA D4.out _) (fun e=>by have:=(I5.out.far _ e).2;omega)) (fun e=>by have:=(hI6.far _ e).2;omega)⟩
    rcases hf with e | e
    ·exact .inl (by rw[e] at hx;exact hx)
    ·exact .inr (by rw[e] at hx;simp only[tA] at hx;omega))
   clear hb4 hs45
   cases fine with
   | false =>
    go_wp2_with (first | (at_builtin;refine list_appE (E:=entE) (xs:=out) (ys:=[(⟨k_,a_,b_,c_,d_⟩:Ent)]) xB _ _ rfl rfl rfl rfl (by exact OA.out) (by exact RA.out) (by have h6:=HOL.out;show _ * 40≤_;simp;omega) ?_;intro v1 w6 hO hK hf;obtain⟨A3,k3,rfl,hI6,hR6⟩:=FIR.out v1 w6 hO hK hf;have I6:=AS hI6;have RM:=AS hR6;have OA2:=AS (show OwnE entE (J A3 (out.length+1) k3) (out ++ [(⟨k_,a_,b_,c_,d_⟩:Ent)]) w6 from(by have h9:=hI6.1.own;rwa [xA] at h9));clear hO hK hf hI6 hR6) | (at_builtin;refine list_appE (E:=entE) (xs:=out ++ [(⟨k_,a_,b_,c_,d_⟩:Ent)]) (ys:=more) xB _ _ rfl rfl rfl rfl (by exact OA2.out) (by exact RM.out) (by have h6:=HOL.out;have h7:=HML.out;show _ * 40≤_;simp;omega) ?_;intro v1 w7 hO hK hf;obtain⟨A4,k4,rfl,hI7⟩:=FIR2.out A3 k3 w6 I6.out.1 I6.out.2.2.1 v1 w7 hO hK hf;have I7:=AS hI7;clear hO hK hf hI7) | fail)
    go_ret2
    have hs:=HSET.out
    simp only[vA,if_false] at hs
    rw[<- hs]
    refine⟨A4,k4,?_,I7.out.1.own,BW.out.trans ((I7.out.1.ks.toBelow (B:=(w.alloc (O #[V I c.nodes,V I c.blocks,V I c.tokens,V I c.sets,V I c.ways,V I c.cap,V I c.wait,V I c.tries,V I c.policy] 23)).heap.size) (fun x h=>h.elim) (pA _)).mono (by have:=SZ0.out;omega))⟩
    simp
   | true =>
    go_wp2_with (first | (at_builtin;refine list_appE (E:=entE) (xs:=out) (ys:=[(⟨k_,a_,b_,c_,d_⟩:Ent)]) xB _ _ rfl rfl rfl rfl (by exact OA.out) (by exact RA.out) (by have h6:=HOL.out;show _ * 40≤_;simp;omega) ?_;intro v1 w6 hO hK hf;obtain⟨A3,k3,rfl,hI6,hR6⟩:=FIR.out v1 w6 hO hK hf;have I6:=AS hI6;have RM:=AS hR6;have OA2:=AS (show OwnE entE (J A3 (out.length+1) k3) (out ++ [(⟨k_,a_,b_,c_,d_⟩:Ent)]) w6 from(by have h9:=hI6.1.own;rwa [xA] at h9));clear hO hK hf hI6 hR6) | (at_builtin;refine list_appE (E:=entE) (xs:=out ++ [(⟨k_,a_,b_,c_,d_⟩:Ent)]) (ys:=more) xB _ _ rfl rfl rfl rfl (by exact OA2.out) (by exact RM.out) (by have h6:=HOL.out;have h7:=HML.out;show _ * 40≤_;simp;omega) ?_;intro v1 w7 hO hK hf;obtain⟨A4,k4,rfl,hI7⟩:=FIR2.out A3 k3 w6 I6.out.1 I6.out.2.2.1 v1 w7 hO hK hf;have I7:=AS hI7;clear hO hK hf hI7) | fail)
    go_roundw
    case rel =>
     have hs:=HSET.out
     simp only[if_true] at hs
     refine⟨i+1,out ++ [(⟨k_,a_,b_,c_,d_⟩:Ent)] ++ more,A4,k4,by go_num,vB,zB,⟨s4,F4,I7.out.1,I7.out.2,OK4.out,?_,?_,hs⟩⟩
     ·have h1:=SS.out.1
      have h2:s3.steps=s.steps+1:=OK1.out.2
      have h3:=HX.out.1
      have h4:s4.steps≤s3.steps+65536:=h1
      omega
     ·have h3:=HX.out.2.1
      have h7:=HML.out
      simp only[xA,List.length_singleton]
      omega
    case measure=>simp[intOf];omega
  ·have hin:i=ops.length:=vB
   subst hin
   rw[List.drop_length] at hset
   have HSET:=AS (show(out,true)=R from hset)
   have HI:=AS (qA hI.own hbel)
   clear hI hbx hok hst hol hset hbel
   go_wp2
   go_ret2
   rw[<- HSET.out]
   exact⟨A,cp,rfl,HI.out.1,HI.out.2⟩
end Go.Proofs.YtiebppkhaiofeaaGreat.K
