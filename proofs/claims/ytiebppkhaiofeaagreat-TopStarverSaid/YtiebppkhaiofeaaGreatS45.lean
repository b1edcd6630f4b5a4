/- Part of the proof of TopStarver: what functions of the program do. -/
import Derived.Test.YtiebppkhaiofeaaGreatS44
import Derived.Test.YtiebppkhaiofeaaGreatS42
set_option maxHeartbeats 4000000
set_option maxRecDepth 100000
set_option linter.unusedVariables false
set_option linter.unusedSimpArgs false
namespace Go.Proofs.YtiebppkhaiofeaaGreat.K
open Go.RowKit Go.Proofs.YtiebppkhaiofeaaGreatW.PrintWords Go.Proofs.YtiebppkhaiofeaaGreat.S
attribute [local go_sem] World.cell?_alloc_some
open Go.ChangeMaps Go.MapKept
def scriptN (c:Cfg) (d:Drw):List Ent->S.World->List Ent->List Ent×Bool
 | [],s,out=>(out,true)
 | x :: xs,s,out=>if (settleN c d 65536 (s.step c x).1 []).2.2 then scriptN c d xs (settleN c d 65536 (s.step c x).1 []).1 (out ++ [x] ++ (settleN c d 65536 (s.step c x).1 []).2.1) else (out ++ [x] ++ (settleN c d 65536 (s.step c x).1 []).2.1,false)
theorem settleN_steps {c:Cfg} (hc:c.check=0) (d:Drw):∀ (n:Nat) (s:S.World) (out:List Ent),WOk c s->s.steps+n≤1000000->(settleN c d n s out).1.steps≤s.steps+n/\(settleN c d n s out).2.1.length≤out.length+n
 | 0,s,out,h,hs=>⟨by show s.steps≤_;omega,Nat.le_refl _⟩
 | n+1,s,out,h,hs=>by
  have h1:=(tinv_step hc h.t (by have:=h.t.st;omega) (nextS s d).1).2.2
  have h2:=wok_step hc h (by omega) (nextS s d).1
  have ih:=settleN_steps hc d n (s.step c (nextS s d).1).1 (out ++ [(nextS s d).1]) h2 (by rw[h1];omega)
  unfold settleN
  split
  ·exact⟨by show s.steps≤_;omega,Nat.le_add_right _ _⟩
  ·split
   ·exact⟨by show(s.step c (nextS s d).1).1.steps≤_;rw[h1];omega,by simp⟩
   ·rw[h1] at ih
    simp only[List.length_append,List.length_singleton] at ih
    exact⟨by have:=ih.1;omega,by have:=ih.2;omega⟩
section
variable {c:Cfg} {s s':S.World} {b:Nat} {out more:List Ent} {A A':Option Addr} {cp cp':Nat} {F0 F F':Set_} {w0 w w' w3:Go.World}
theorem SetI.settled (h:SetI c s b out A cp F0 w0 F w) (h':SetI c s' b more A' cp' F w F' w'):SetI c s' b out A cp F0 w0 F' w':=by
 have hz:=h.big
 have hz2:=h'.ks.size
 have hlt:=h.own.lt
 exact⟨h'.wld,h.own.ks h'.ks (fun x hx=>(h.far x hx).1),fun x hx=>⟨fun e=>(h.far x hx).1 (h'.old x (hlt x hx) e),(h.far x hx).2⟩,fun x hx e=>h.old x hx (h'.old x (by omega) e),fun e=>h.box (h'.old _ hz e),h'.top,h.ks.trans h'.ks (fun x hx e=>h.old x hx e),by omega⟩
theorem SetI.moreL {l:List Ent} (h:SetI c s b out A cp F0 w0 F w) (hO:OwnE entE (.slice A' (out ++ l).length cp') (out ++ l) w3) (hk:KS (fun x=>x∈foot (.slice A out.length cp)) w w3) (hf:∀ x∈foot (.slice A' (out ++ l).length cp'),x∈foot (.slice A out.length cp)∨(w.heap.size≤x/\w0.heap.size < x)):SetI c s b (out ++ l) A' cp' F0 w0 F w3:=by
 refine⟨h.wld.keep hk (fun x _ hx=>⟨hx,fun e=>(h.far x e).1 hx⟩),hO,?_,h.old,h.box,fun x hx=>h.top x (Nat.le_trans hk.size hx),h.ks.trans hk (fun x hx e=>by have:=(h.far x e).2;omega),Nat.lt_of_lt_of_le h.big hk.size⟩
 intro x hx
 rcases hf x hx with e | e
 ·exact h.far x e
 ·exact⟨h.top x e.1,e.2⟩
end
theorem script_any {c:Cfg} {w:Go.World} (hc:c.check=0) (d0 d1 d2:Int) (ops:List Ent) {Ao:Option Addr} {co:Nat} (hO:OwnE entE (.slice Ao ops.length co) ops w) (hl:ops.length≤12) :
  Calls Tryz.prog 13 #[cfgV c,.agg #[.int .i64 d0,.int .i64 d1,.int .i64 d2],.slice Ao ops.length co] w fun e w'=>∃ A cp,e=.returned (.tuple #[.slice A (scriptN c ⟨d0,d1,d2⟩ ops (S.World.new c) []).1.length cp,.bool (scriptN c ⟨d0,d1,d2⟩ ops (S.World.new c) []).2])/\OwnE entE (.slice A (scriptN c ⟨d0,d1,d2⟩ ops (S.World.new c) []).1.length cp) (scriptN c ⟨d0,d1,d2⟩ ops (S.World.new c) []).1 w'/\Below w.heap.size w w':=by
 have HC:=AS hc
 have NW:=AS (fun X=>worldNew_any c hc X)
 have OP:=AS hO
 have HWN:=AS (wok_new hc)
 have BN:=AS (blk_alloc (blk_new w (.cells #[.int .i64 c.nodes,.int .i64 c.blocks,.int .i64 c.tokens,.int .i64 c.sets,.int .i64 c.ways,.int .i64 c.cap,.int .i64 c.wait,.int .i64 c.tries,.int .i64 c.policy] 23)) (.cells #[.int .i64 d0,.int .i64 d1,.int .i64 d2] 74))
 have BD:=AS (show((w.alloc (.cells #[.int .i64 c.nodes,.int .i64 c.blocks,.int .i64 c.tokens,.int .i64 c.sets,.int .i64 c.ways,.int .i64 c.cap,.int .i64 c.wait,.int .i64 c.tries,.int .i64 c.policy] 23)).alloc (.cells #[.int .i64 d0,.int .i64 d1,.int .i64 d2] 74)).heap[w.heap.size+1]?=some (.cells #[.int .i64 d0,.int .i64 d1,.int .i64 d2] 74 (0,0)) from blk_newE _ _ (by rw[World.size_alloc]))
 have B0:=AS (below_alloc (Below.refl (w.alloc (.cells #[.int .i64 c.nodes,.int .i64 c.blocks,.int .i64 c.tokens,.int .i64 c.sets,.int .i64 c.ways,.int .i64 c.cap,.int .i64 c.wait,.int .i64 c.tries,.int .i64 c.policy] 23)).heap.size (w.alloc (.cells #[.int .i64 c.nodes,.int .i64 c.blocks,.int .i64 c.tokens,.int .i64 c.sets,.int .i64 c.ways,.int .i64 c.cap,.int .i64 c.wait,.int .i64 c.tries,.int .i64 c.policy] 23))) (.cells #[.int .i64 d0,.int .i64 d1,.int .i64 d2] 74))
 have BW:=AS (below_alloc (Below.refl w.heap.size w) (.cells #[.int .i64 c.nodes,.int .i64 c.blocks,.int .i64 c.tokens,.int .i64 c.sets,.int .i64 c.ways,.int .i64 c.cap,.int .i64 c.wait,.int .i64 c.tries,.int .i64 c.policy] 23))
 have SZ0:=AS (sz_alloc w (.cells #[.int .i64 c.nodes,.int .i64 c.blocks,.int .i64 c.tokens,.int .i64 c.sets,.int .i64 c.ways,.int .i64 c.cap,.int .i64 c.wait,.int .i64 c.tries,.int .i64 c.policy] 23))
 have SZ:=AS (show((w.alloc (.cells #[.int .i64 c.nodes,.int .i64 c.blocks,.int .i64 c.tokens,.int .i64 c.sets,.int .i64 c.ways,.int .i64 c.cap,.int .i64 c.wait,.int .i64 c.tries,.int .i64 c.policy] 23)).alloc (.cells #[.int .i64 d0,.int .i64 d1,.int .i64 d2] 74)).heap.size=w.heap.size+2 from by rw[World.size_alloc,World.size_alloc])
 obtain⟨R,hR⟩:∃ R,scriptN c ⟨d0,d1,d2⟩ ops (S.World.new c) []=R:=⟨_,rfl⟩
 rw[hR]
 have HR:=AS hR
 clear hO hc hR
 simp only[cfgV] at NW ⊢
 go_enter Tryz.func13,Tryz.ntmps13
 go_upto_region 1 with fail
 generalize (w.alloc (.cells #[.int .i64 c.nodes,.int .i64 c.blocks,.int .i64 c.tokens,.int .i64 c.sets,.int .i64 c.ways,.int .i64 c.cap,.int .i64 c.wait,.int .i64 c.tries,.int .i64 c.policy] 23)).alloc (.cells #[.int .i64 d0,.int .i64 d1,.int .i64 d2] 74)=W at BN BD B0 SZ ⊢
 obtain⟨e0_,e1_,e2_,e3_,e4_,e5_,e6_,e7_,e8_⟩:=(show W.cell? ⟨w.heap.size,0,none⟩=some (.int .i64 c.nodes)/\W.cell? ⟨w.heap.size,1,none⟩=some (.int .i64 c.blocks)/\W.cell? ⟨w.heap.size,2,none⟩=some (.int .i64 c.tokens)/\W.cell? ⟨w.heap.size,3,none⟩=some (.int .i64 c.sets)/\W.cell? ⟨w.heap.size,4,none⟩=some (.int .i64 c.ways)/\W.cell? ⟨w.heap.size,5,none⟩=some (.int .i64 c.cap)/\W.cell? ⟨w.heap.size,6,none⟩=some (.int .i64 c.wait)/\W.cell? ⟨w.heap.size,7,none⟩=some (.int .i64 c.tries)/\W.cell? ⟨w.heap.size,8,none⟩=some (.int .i64 c.policy) from⟨cw BN.out 0,cw BN.out 1,cw BN.out 2,cw BN.out 3,cw BN.out 4,cw BN.out 5,cw BN.out 6,cw BN.out 7,cw BN.out 8⟩)
 go_wp2_with fail
 refine(NW.out W).mono ?_
 rintro e w1 ⟨b,rfl,hW1,hb1⟩
 have R0:=AS (show(∃ s F,SetI c s b ([]:List Ent) none 0 (fun _=>False) (w.alloc (.cells #[.int .i64 c.nodes,.int .i64 c.blocks,.int .i64 c.tokens,.int .i64 c.sets,.int .i64 c.ways,.int .i64 c.cap,.int .i64 c.wait,.int .i64 c.tries,.int .i64 c.policy] 23)) F w1/\w1.heap[w.heap.size+1]?=some (.cells #[.int .i64 d0,.int .i64 d1,.int .i64 d2] 74 (0,0))/\WOk c s/\s.steps≤(0:Nat) * 65537/\([]:List Ent).length≤0 * 65537/\scriptN c ⟨d0,d1,d2⟩ (ops.drop 0) s ([]:List Ent)=R) from by
  have z0:=SZ0.out
  have z1:=SZ.out
  have z2:=hb1.size
  refine⟨S.World.new c,fun x=>W.heap.size≤x/\x < w1.heap.size,⟨hW1.keep (KS.refl (fun _=>False) _) (fun x hx h=>⟨⟨h,hx⟩,id⟩),OwnE.nil _,fun x hx=>by simp[foot_nil] at hx,fun x hx h=>by have:=h.1;omega,fun h=>by have:=h.1;omega,fun x hx h=>by have:=h.2;omega,(KS.below _ B0.out).andBelow hb1,by omega⟩,blk_below BD.out hb1,HWN.out,by show(0:Int)≤_;omega,Nat.zero_le _,HR.out⟩)
 clear hW1 hb1 NW e0_ e1_ e2_ e3_ e4_ e5_ e6_ e7_ e8_
 go_wp2_with fail
 go_loopw [10,12,13,14,24] (fun v10 v12 v13 v14 v24 wr=>∃ (i:Nat) (out:List Ent) (A:Option Addr) (cp:Nat),v24=.int .i64 i/\i≤ops.length/\v10=.slice A out.length cp/\Aside0 (∃ s F,SetI c s b out A cp (fun _=>False) (w.alloc (.cells #[.int .i64 c.nodes,.int .i64 c.blocks,.int .i64 c.tokens,.int .i64 c.sets,.int .i64 c.ways,.int .i64 c.cap,.int .i64 c.wait,.int .i64 c.tries,.int .i64 c.policy] 23)) F wr/\wr.heap[w.heap.size+1]?=some (.cells #[.int .i64 d0,.int .i64 d1,.int .i64 d2] 74 (0,0))/\WOk c s/\s.steps≤(i:Nat) * 65537/\out.length≤i * 65537/\scriptN c ⟨d0,d1,d2⟩ (ops.drop i) s out=R)) (fun _ _ _ _ v24 _=>ops.length+1 - (intOf v24).toNat)
 case atStart=>exact⟨0,[],none,0,rfl,by omega,rfl,R0⟩
 case round =>
  obtain⟨i,out,A,cp,rfl,hi,rfl,RR⟩:=hrel
  obtain⟨s,F,hI,hbx,hok,hst,hol,hset⟩:=RR.out
  have hbel:Below w.heap.size w wr:=BW.out.trans ((hI.ks.toBelow (B:=(w.alloc (.cells #[.int .i64 c.nodes,.int .i64 c.blocks,.int .i64 c.tokens,.int .i64 c.sets,.int .i64 c.ways,.int .i64 c.cap,.int .i64 c.wait,.int .i64 c.tries,.int .i64 c.policy] 23)).heap.size) (fun x h=>h.elim) (Nat.le_refl _)).mono (by have:=SZ0.out;omega))
  by_cases hcc:i < ops.length
  ·have q0:(0:Int)≤(i:Int):=by omega
   have q1:(i:Int) < (ops.length:Int):=by omega
   obtain⟨gl,cl,e,-,-,hgl,hcell⟩:=own_some OP.out hcc
   injection e with e1 e2 e3
   subst e1 e3
   have hdr:ops.drop i=ops.getD i ent0 :: ops.drop (i+1):=by rw[List.drop_eq_getElem_cons hcc,List.getD_eq_getElem?_getD,List.getElem?_eq_getElem hcc];rfl
   rw[hdr] at hset
   have m0:wr.cell? ⟨gl,i * 5,none⟩=some (.int .i64 (ops.getD i ent0).kind):=((bcell hbel).1 gl _ hgl).trans ((hcell 0 (by decide)).trans rfl)
   have m1:wr.cell? ⟨gl,i * 5+1,none⟩=some (.int .i64 (ops.getD i ent0).a):=((bcell hbel).1 gl _ hgl).trans ((hcell 1 (by decide)).trans rfl)
   have m2:wr.cell? ⟨gl,i * 5+2,none⟩=some (.int .i64 (ops.getD i ent0).b):=((bcell hbel).1 gl _ hgl).trans ((hcell 2 (by decide)).trans rfl)
   have m3:wr.cell? ⟨gl,i * 5+3,none⟩=some (.int .i64 (ops.getD i ent0).c):=((bcell hbel).1 gl _ hgl).trans ((hcell 3 (by decide)).trans rfl)
   have m4:wr.cell? ⟨gl,i * 5+4,none⟩=some (.int .i64 (ops.getD i ent0).d):=((bcell hbel).1 gl _ hgl).trans ((hcell 4 (by decide)).trans rfl)
   generalize ops.getD i ent0=en at m0 m1 m2 m3 m4 hset
   obtain⟨k_,a_,b_,c_,d_⟩:=en
   simp only at m0 m1 m2 m3 m4
   have I1:=AS (hI.below (below_alloc (Below.refl wr.heap.size wr) (.cells #[.int .i64 k_,.int .i64 a_,.int .i64 b_,.int .i64 c_,.int .i64 d_] 33)))
   have G1:=AS (blk_new wr (.cells #[.int .i64 k_,.int .i64 a_,.int .i64 b_,.int .i64 c_,.int .i64 d_] 33))
   have D1:=AS (blk_alloc hbx (.cells #[.int .i64 k_,.int .i64 a_,.int .i64 b_,.int .i64 c_,.int .i64 d_] 33))
   have hi12:i≤12:=by omega
   have ST:=AS (worldStep_any (e:=(⟨k_,a_,b_,c_,d_⟩:Ent)) I1.out.wld (WOk.bounds HC.out hok (by omega) rfl rfl rfl))
   have OK1:=AS (show WOk c (s.step c (⟨k_,a_,b_,c_,d_⟩:Ent)).1/\(s.step c (⟨k_,a_,b_,c_,d_⟩:Ent)).1.steps=s.steps+1 from⟨wok_step HC.out hok (by omega) _,(tinv_step HC.out hok.t (by omega) _).2.2⟩)
   have HX:=AS (And.intro hst (And.intro hol hset))
   have TP:=AS (hI.top wr.heap.size (Nat.le_refl _))
   simp only[entV] at ST
   clear hI hbx hok hst hol hset hbel hcell hdr hgl
   go_wp2_with fail
   refine ST.out.mono ?_
   rintro e w3 ⟨Ad,n8,cp8,rfl,hW8,-,hk8⟩
   have hsa:=sz_alloc wr (.cells #[.int .i64 k_,.int .i64 a_,.int .i64 b_,.int .i64 c_,.int .i64 d_] 33)
   have I3:=AS (I1.out.step hW8 hk8)
   have D3:=AS (hk8.at_ D1.out (fun e=>I1.out.box (by rw[SZ0.out];exact e)))
   have G3:=AS (hk8.at_ G1.out (fun e=>TP.out e))
   have hf3:¬ (F wr.heap.size∨((wr.alloc (.cells #[.int .i64 k_,.int .i64 a_,.int .i64 b_,.int .i64 c_,.int .i64 d_] 33)).heap.size≤wr.heap.size/\wr.heap.size < w3.heap.size)):=fun e=>by
    rcases e with e | e
    ·exact TP.out e
    ·omega
   have HF3:=AS (show ¬ (fun x=>F x∨((wr.alloc (.cells #[.int .i64 k_,.int .i64 a_,.int .i64 b_,.int .i64 c_,.int .i64 d_] 33)).heap.size≤x/\x < w3.heap.size)) wr.heap.size from hf3)
   clear hf3 hsa hW8 hk8 ST m0 m1 m2 m3 m4
   generalize hSR:s.step c (⟨k_,a_,b_,c_,d_⟩:Ent)=SR at I3 OK1 ⊢
   obtain⟨s3,rk,dk⟩:=SR
   have HSR:=AS hSR
   clear hSR
   have hset:=HX.out.2.2
   unfold scriptN at hset
   rw[HSR.out] at hset
   simp only at hset
   have hst3:s3.steps=s.steps+1:=OK1.out.2
   have SS:=AS (settleN_steps HC.out ⟨d0,d1,d2⟩ 65536 s3 [] OK1.out.1 (by have:=HX.out.1;omega))
   have SE:=AS (settle_any HC.out OK1.out.1 (show s3.steps≤900000 by have:=HX.out.1;omega) I3.out.wld d0 d1 d2 _ rfl)
   generalize settleN c ⟨d0,d1,d2⟩ 65536 s3 []=R1 at SE SS hset
   obtain⟨s4,more,fine⟩:=R1
   have HSET:=AS hset
   clear hset hst3
   generalize (fun x=>F x∨((wr.alloc (.cells #[.int .i64 k_,.int .i64 a_,.int .i64 b_,.int .i64 c_,.int .i64 d_] 33)).heap.size≤x/\x < w3.heap.size))=F3 at I3 SE HF3
   have v0_:=cw D3.out 0 (v:=.int .i64 d0)
   have v1_:=cw D3.out 1 (v:=.int .i64 d1)
   have v2_:=cw D3.out 2 (v:=.int .i64 d2)
   go_wp2_with fail
   refine SE.out.mono ?_
   rintro e w4 ⟨A',cp',F4,rfl,hI',hok4,hst4⟩
   have I4:=AS (I3.out.settled hI')
   have M4:=AS hI'
   have OK4:=AS hok4
   have D4:=AS (hI'.ks.at_ D3.out (fun e=>I3.out.box (by rw[SZ0.out];exact e)))
   have G4:=AS (hI'.ks.at_ G3.out HF3.out)
   have n0_:=cw G4.out 0 (v:=.int .i64 k_)
   have n1_:=cw G4.out 1 (v:=.int .i64 a_)
   have n2_:=cw G4.out 2 (v:=.int .i64 b_)
   have n3_:=cw G4.out 3 (v:=.int .i64 c_)
   have n4_:=cw G4.out 4 (v:=.int .i64 d_)
   clear hI' hok4 hst4 SE v0_ v1_ v2_
   have I5:=AS (I4.out.below (below_alloc (Below.refl w4.heap.size w4) (.cells #[.int .i64 k_,.int .i64 a_,.int .i64 b_,.int .i64 c_,.int .i64 d_] 33)))
   have OA:=AS I5.out.own
   have RA:=AS (show RowE entE (w4.alloc (.cells #[.int .i64 k_,.int .i64 a_,.int .i64 b_,.int .i64 c_,.int .i64 d_] 33)) (some ⟨w4.heap.size,0,none⟩) [(⟨k_,a_,b_,c_,d_⟩:Ent)] from rowE_one (E:=entE) (x:=(⟨k_,a_,b_,c_,d_⟩:Ent)) (blk_new w4 (.cells #[.int .i64 k_,.int .i64 a_,.int .i64 b_,.int .i64 c_,.int .i64 d_] 33)))
   have HOL:=AS (show out.length≤786444 from by have h:=HX.out.2.1;exact Nat.le_trans h (by omega))
   have HML:=AS (show more.length≤65536 from by have:=SS.out.2;simpa using this)
   have APT:=AS (show ∀ x∈foot (.slice A' more.length cp'),x∉foot (.slice A out.length cp) from fun x hx e=>by have h1:=(M4.out.far x hx).2;have h2:=I3.out.own.lt x e;omega)
   have hb4:=I4.out.big
   have hs45:=sz_alloc w4 (.cells #[.int .i64 k_,.int .i64 a_,.int .i64 b_,.int .i64 c_,.int .i64 d_] 33)
   have FIR:=AS (show ∀ v1 w6,OwnE entE v1 (out ++ [(⟨k_,a_,b_,c_,d_⟩:Ent)]) w6->Keeps (foot (.slice A out.length cp)) (w4.alloc (.cells #[.int .i64 k_,.int .i64 a_,.int .i64 b_,.int .i64 c_,.int .i64 d_] 33)) w6->(foot v1=foot (.slice A out.length cp)∨foot v1=[(w4.alloc (.cells #[.int .i64 k_,.int .i64 a_,.int .i64 b_,.int .i64 c_,.int .i64 d_] 33)).heap.size])->∃ A3 k3,v1=.slice A3 (out ++ [(⟨k_,a_,b_,c_,d_⟩:Ent)]).length k3/\(SetI c s4 b (out ++ [(⟨k_,a_,b_,c_,d_⟩:Ent)]) A3 k3 (fun _=>False) (w.alloc (.cells #[.int .i64 c.nodes,.int .i64 c.blocks,.int .i64 c.tokens,.int .i64 c.sets,.int .i64 c.ways,.int .i64 c.cap,.int .i64 c.wait,.int .i64 c.tries,.int .i64 c.policy] 23)) F4 w6/\(∀ x∈foot (.slice A3 (out ++ [(⟨k_,a_,b_,c_,d_⟩:Ent)]).length k3),x∉foot (.slice A' more.length cp'))/\KS (fun x=>x∈foot (.slice A out.length cp)) (w4.alloc (.cells #[.int .i64 k_,.int .i64 a_,.int .i64 b_,.int .i64 c_,.int .i64 d_] 33)) w6/\OwnE entE (.slice A' more.length cp') more w6)/\RowE entE w6 A' more from by
    intro v1 w6 hO hK hf
    have hk3:KS (fun x=>x∈foot (.slice A out.length cp)) (w4.alloc (.cells #[.int .i64 k_,.int .i64 a_,.int .i64 b_,.int .i64 c_,.int .i64 d_] 33)) w6:=KS.keeps hK
    obtain⟨A3,k3,hv,-⟩:=hO.row
    subst hv
    have hOm:OwnE entE (.slice A' more.length cp') more w6:=(M4.out.own.ks (KS.below (fun _=>False) (below_alloc (Below.refl w4.heap.size w4) (.cells #[.int .i64 k_,.int .i64 a_,.int .i64 b_,.int .i64 c_,.int .i64 d_] 33))) (fun _ _=>id)).ks hk3 (fun x hx e=>APT.out x hx e)
    have hmlt:=M4.out.own.lt
    have hf':∀ x∈foot (.slice A3 (out ++ [(⟨k_,a_,b_,c_,d_⟩:Ent)]).length k3),x∈foot (.slice A out.length cp)∨(w4.alloc (.cells #[.int .i64 k_,.int .i64 a_,.int .i64 b_,.int .i64 c_,.int .i64 d_] 33)).heap.size≤x:=fun x hx=>by
     rcases hf with e | e
     ·exact .inl (by rw[e] at hx;exact hx)
     ·exact .inr (by rw[e] at hx;simp only[List.mem_singleton] at hx;omega)
    refine⟨A3,k3,rfl,⟨I5.out.moreL hO hk3 (fun x hx=>(hf' x hx).imp id (fun e=>⟨e,by omega⟩)),fun x hx e=>?_,hk3,hOm⟩,?_⟩
    ·rcases hf' x hx with h | h
     ·exact APT.out x e h
     ·have:=hmlt x e;omega
    ·obtain⟨A9,c9,e9,hr9,-⟩:=hOm.row
     injection e9 with e1 e2 e3
     subst e1
     exact hr9)
   have FIR2:=AS (show ∀ A3 k3 w6,SetI c s4 b (out ++ [(⟨k_,a_,b_,c_,d_⟩:Ent)]) A3 k3 (fun _=>False) (w.alloc (.cells #[.int .i64 c.nodes,.int .i64 c.blocks,.int .i64 c.tokens,.int .i64 c.sets,.int .i64 c.ways,.int .i64 c.cap,.int .i64 c.wait,.int .i64 c.tries,.int .i64 c.policy] 23)) F4 w6->KS (fun x=>x∈foot (.slice A out.length cp)) (w4.alloc (.cells #[.int .i64 k_,.int .i64 a_,.int .i64 b_,.int .i64 c_,.int .i64 d_] 33)) w6->∀ v1 w7,OwnE entE v1 ((out ++ [(⟨k_,a_,b_,c_,d_⟩:Ent)]) ++ more) w7->Keeps (foot (.slice A3 (out.length+1) k3)) w6 w7->(foot v1=foot (.slice A3 (out.length+1) k3)∨foot v1=[w6.heap.size])->∃ A4 k4,v1=.slice A4 ((out ++ [(⟨k_,a_,b_,c_,d_⟩:Ent)]) ++ more).length k4/\SetI c s4 b ((out ++ [(⟨k_,a_,b_,c_,d_⟩:Ent)]) ++ more) A4 k4 (fun _=>False) (w.alloc (.cells #[.int .i64 c.nodes,.int .i64 c.blocks,.int .i64 c.tokens,.int .i64 c.sets,.int .i64 c.ways,.int .i64 c.cap,.int .i64 c.wait,.int .i64 c.tries,.int .i64 c.policy] 23)) F4 w7/\w7.heap[w.heap.size+1]?=some (.cells #[.int .i64 d0,.int .i64 d1,.int .i64 d2] 74 (0,0)) from by
    intro A3 k3 w6 hI6 hk6 v1 w7 hO hK hf
    have hlen:out.length+1=(out ++ [(⟨k_,a_,b_,c_,d_⟩:Ent)]).length:=by simp
    rw[hlen] at hK hf
    have hk3:KS (fun x=>x∈foot (.slice A3 (out ++ [(⟨k_,a_,b_,c_,d_⟩:Ent)]).length k3)) w6 w7:=KS.keeps hK
    obtain⟨A4,k4,hv,-⟩:=hO.row
    subst hv
    have hb6:=hI6.big
    have hz0:=SZ0.out
    refine⟨A4,k4,rfl,hI6.moreL hO hk3 (fun x hx=>?_),hk3.at_ (hk6.at_ (blk_alloc D4.out _) (fun e=>by have:=(I5.out.far _ e).2;omega)) (fun e=>by have:=(hI6.far _ e).2;omega)⟩
    rcases hf with e | e
    ·exact .inl (by rw[e] at hx;exact hx)
    ·exact .inr (by rw[e] at hx;simp only[List.mem_singleton] at hx;omega))
   clear hb4 hs45
   cases fine with
   | false =>
    go_wp2_with (first | (at_builtin;refine list_appE (E:=entE) (xs:=out) (ys:=[(⟨k_,a_,b_,c_,d_⟩:Ent)]) (by kernel_rfl) _ _ rfl rfl rfl rfl (by exact OA.out) (by exact RA.out) (by have h6:=HOL.out;show _ * 40≤_;simp;omega) ?_;intro v1 w6 hO hK hf;obtain⟨A3,k3,rfl,hI6,hR6⟩:=FIR.out v1 w6 hO hK hf;have I6:=AS hI6;have RM:=AS hR6;have OA2:=AS (show OwnE entE (.slice A3 (out.length+1) k3) (out ++ [(⟨k_,a_,b_,c_,d_⟩:Ent)]) w6 from(by have h9:=hI6.1.own;rwa [List.length_append] at h9));clear hO hK hf hI6 hR6) | (at_builtin;refine list_appE (E:=entE) (xs:=out ++ [(⟨k_,a_,b_,c_,d_⟩:Ent)]) (ys:=more) (by kernel_rfl) _ _ rfl rfl rfl rfl (by exact OA2.out) (by exact RM.out) (by have h6:=HOL.out;have h7:=HML.out;show _ * 40≤_;simp;omega) ?_;intro v1 w7 hO hK hf;obtain⟨A4,k4,rfl,hI7⟩:=FIR2.out A3 k3 w6 I6.out.1 I6.out.2.2.1 v1 w7 hO hK hf;have I7:=AS hI7;clear hO hK hf hI7) | fail)
    go_ret2
    have hs:=HSET.out
    simp only[Bool.false_eq_true,if_false] at hs
    rw[<- hs]
    refine⟨A4,k4,?_,I7.out.1.own,BW.out.trans ((I7.out.1.ks.toBelow (B:=(w.alloc (.cells #[.int .i64 c.nodes,.int .i64 c.blocks,.int .i64 c.tokens,.int .i64 c.sets,.int .i64 c.ways,.int .i64 c.cap,.int .i64 c.wait,.int .i64 c.tries,.int .i64 c.policy] 23)).heap.size) (fun x h=>h.elim) (Nat.le_refl _)).mono (by have:=SZ0.out;omega))⟩
    simp
   | true =>
    go_wp2_with (first | (at_builtin;refine list_appE (E:=entE) (xs:=out) (ys:=[(⟨k_,a_,b_,c_,d_⟩:Ent)]) (by kernel_rfl) _ _ rfl rfl rfl rfl (by exact OA.out) (by exact RA.out) (by have h6:=HOL.out;show _ * 40≤_;simp;omega) ?_;intro v1 w6 hO hK hf;obtain⟨A3,k3,rfl,hI6,hR6⟩:=FIR.out v1 w6 hO hK hf;have I6:=AS hI6;have RM:=AS hR6;have OA2:=AS (show OwnE entE (.slice A3 (out.length+1) k3) (out ++ [(⟨k_,a_,b_,c_,d_⟩:Ent)]) w6 from(by have h9:=hI6.1.own;rwa [List.length_append] at h9));clear hO hK hf hI6 hR6) | (at_builtin;refine list_appE (E:=entE) (xs:=out ++ [(⟨k_,a_,b_,c_,d_⟩:Ent)]) (ys:=more) (by kernel_rfl) _ _ rfl rfl rfl rfl (by exact OA2.out) (by exact RM.out) (by have h6:=HOL.out;have h7:=HML.out;show _ * 40≤_;simp;omega) ?_;intro v1 w7 hO hK hf;obtain⟨A4,k4,rfl,hI7⟩:=FIR2.out A3 k3 w6 I6.out.1 I6.out.2.2.1 v1 w7 hO hK hf;have I7:=AS hI7;clear hO hK hf hI7) | fail)
    go_roundw
    case rel =>
     have hs:=HSET.out
     simp only[if_true] at hs
     refine⟨i+1,out ++ [(⟨k_,a_,b_,c_,d_⟩:Ent)] ++ more,A4,k4,by go_num,by omega,by simp,⟨s4,F4,I7.out.1,I7.out.2,OK4.out,?_,?_,hs⟩⟩
     ·have h1:=SS.out.1
      have h2:s3.steps=s.steps+1:=OK1.out.2
      have h3:=HX.out.1
      have h4:s4.steps≤s3.steps+65536:=h1
      omega
     ·have h3:=HX.out.2.1
      have h7:=HML.out
      simp only[List.length_append,List.length_singleton]
      omega
    case measure=>simp[intOf];omega
  ·have hin:i=ops.length:=by omega
   subst hin
   rw[List.drop_length] at hset
   have HSET:=AS (show(out,true)=R from hset)
   have HI:=AS (And.intro hI.own hbel)
   clear hI hbx hok hst hol hset hbel
   go_wp2
   go_ret2
   rw[<- HSET.out]
   exact⟨A,cp,rfl,HI.out.1,HI.out.2⟩
def checkN:List S.Done->Regs->Nat->Int×Bool
 | [],_,_=>(0,true)
 | d :: ds,r,i=>if (r.doIt d).2 then checkN ds (r.doIt d).1 (i+1) else (i,false)
theorem check_any (ds:List S.Done) (hl:ds.length≤1000000000) {A:Option Addr} {lc:Nat} {w:Go.World} (hR:OwnE doneE (.slice A ds.length lc) ds w):Calls Tryz.prog 16 #[.slice A ds.length lc] w fun e w'=>e=.returned (.tuple #[.int .i64 (checkN ds Regs.new 0).1,.bool (checkN ds Regs.new 0).2])/\Below w.heap.size w w':=by
 have RR:=AS hR
 clear hR
 obtain⟨R,hRe⟩:∃ R,R=checkN ds Regs.new 0:=⟨_,rfl⟩
 rw[<- hRe]
 have HRE:=AS hRe
 clear hRe
 go_enter Tryz.func16,Tryz.ntmps16
 go_wp2_with fail
 refine(regNew_any _).mono ?_
 rintro e w1 ⟨b,rfl,hG,hb⟩
 have R0:=AS (show(∃ (r:Regs) (F:Set_),RegAt r b F w1/\(∀ x,F x->w.heap.size≤x)/\Below w.heap.size w w1/\checkN (ds.drop 0) r 0=R) from⟨Regs.new,_,hG,fun x h=>h,hb,HRE.out.symm⟩)
 clear hG hb HRE
 go_wp2_with fail
 go_loopw [5,6,10] (fun v5 v6 v10 wr=>∃ i:Nat,v10=.int .i64 i/\i≤ds.length/\Aside0 (∃ (r:Regs) (F:Set_),RegAt r b F wr/\(∀ x,F x->w.heap.size≤x)/\Below w.heap.size w wr/\checkN (ds.drop i) r i=R)) (fun _ _ v10 _=>ds.length+1 - (intOf v10).toNat)
 case atStart=>exact⟨0,rfl,by omega,R0⟩
 case round =>
  obtain⟨i,rfl,hi,RL⟩:=hrel
  obtain⟨r,F,r1,r2,r3,r4⟩:=RL.out
  by_cases hcc:i < ds.length
  ·have q0:(0:Int)≤(i:Int):=by omega
   have q1:(i:Int) < (ds.length:Int):=by omega
   obtain⟨gl,cl,e,-,-,hgl,hcell⟩:=own_some RR.out hcc
   injection e with e1 e2 e3
   subst e1 e3
   have m0:wr.cell? ⟨gl,i * 7+0,none⟩=some (.int .i64 (ds.getD i done0).node):=((bcell r3).1 gl _ hgl).trans ((hcell 0 (by decide)).trans rfl)
   have m1:wr.cell? ⟨gl,i * 7+1,none⟩=some (.int .i64 (ds.getD i done0).number):=((bcell r3).1 gl _ hgl).trans ((hcell 1 (by decide)).trans rfl)
   have m2:wr.cell? ⟨gl,i * 7+2,none⟩=some (.int .i64 (ds.getD i done0).op.block):=((bcell r3).1 gl _ hgl).trans ((hcell 2 (by decide)).trans rfl)
   have m3:wr.cell? ⟨gl,i * 7+3,none⟩=some (.bool (ds.getD i done0).op.write):=((bcell r3).1 gl _ hgl).trans ((hcell 3 (by decide)).trans rfl)
   have m4:wr.cell? ⟨gl,i * 7+4,none⟩=some (.int .i64 (ds.getD i done0).op.value):=((bcell r3).1 gl _ hgl).trans ((hcell 4 (by decide)).trans rfl)
   have m5:wr.cell? ⟨gl,i * 7+5,none⟩=some (.int .i64 (ds.getD i done0).value):=((bcell r3).1 gl _ hgl).trans ((hcell 5 (by decide)).trans rfl)
   have m6:wr.cell? ⟨gl,i * 7+6,none⟩=some (.int .i64 (ds.getD i done0).step):=((bcell r3).1 gl _ hgl).trans ((hcell 6 (by decide)).trans rfl)
   have m0':wr.cell? ⟨gl,i * 7,none⟩=some (.int .i64 (ds.getD i done0).node):=m0
   have hdr:ds.drop i=ds.getD i done0 :: ds.drop (i+1):=by rw[List.drop_eq_getElem_cons hcc,List.getD_eq_getElem?_getD,List.getElem?_eq_getElem hcc,Option.getD_some]
   rw[hdr] at r4
   have ENX:=AS (show ∃ en,ds.getD i done0=en from⟨_,rfl⟩)
   obtain⟨en,hen⟩:=ENX.out
   rw[hen] at m0 m0' m1 m2 m3 m4 m5 m6 r4
   clear hen hdr ENX hcell hgl m0
   obtain⟨nd,nu,⟨bl,wt,ov⟩,va,st⟩:=en
   have RB:=AS (r1.keep (F':=F) (KS.below (fun _=>False) (below_alloc (Below.refl wr.heap.size wr) (.cells #[.int .i64 nd,.int .i64 nu,.int .i64 bl,.bool wt,.int .i64 ov,.int .i64 va,.int .i64 st] 59))) (fun x _ h=>⟨h,id⟩))
   have ST:=AS (regDo_any RB.out nd nu bl wt ov va st)
   unfold checkN at r4
   generalize r.doIt (⟨nd,nu,⟨bl,wt,ov⟩,va,st⟩:S.Done)=D at ST r4
   obtain⟨r',ok⟩:=D
   have H4:=AS r4
   have H2:=AS r2
   have H3:=AS (below_alloc r3 (.cells #[.int .i64 nd,.int .i64 nu,.int .i64 bl,.bool wt,.int .i64 ov,.int .i64 va,.int .i64 st] 59))
   clear r1 r2 r3 r4
   simp only at m0' m1 m2 m3 m4 m5 m6
   go_wp2_with fail
   refine ST.out.mono ?_
   rintro e w5 ⟨rfl,hr5,hk5⟩
   have R5:=AS hr5
   have B5:=AS (H3.out.trans (hk5.toBelow (B:=w.heap.size) H2.out H3.out.size))
   clear hr5 hk5 ST m0' m1 m2 m3 m4 m5 m6
   cases ok with
   | false =>
    have h4:=H4.out
    simp only[Bool.false_eq_true,if_false] at h4
    subst h4
    go_wp2
    go_ret2
    exact⟨rfl,B5.out⟩
   | true =>
    have h4:=H4.out
    simp only[if_true] at h4
    have H5:=AS h4
    clear h4 H4
    go_wp2
    go_roundw
    case rel =>
     refine⟨i+1,by go_num,by omega,⟨⟨r',_,R5.out,fun x h=>?_,B5.out,H5.out⟩⟩⟩
     rcases h with h | h
     ·exact H2.out x h
     ·exact Nat.le_trans H3.out.size h
    case measure=>simp[intOf];omega
  ·have hin:i=ds.length:=by omega
   subst hin
   rw[List.drop_length] at r4
   have h4:(0,true)=R:=r4
   subst h4
   have B5:=AS r3
   clear r1 r2 r3 r4
   go_wp2
   go_ret2
   exact⟨rfl,B5.out⟩
def CntAt (cs:List Int) (g:Nat) (w:Go.World):Prop:=w.heap[g]?=some (.cells (cs.map fun v=>Value.int .i64 v).toArray 79 (0,0))/\cs.length=23
def bump (cs:List Int) (j:Nat):List Int:=cs.set j (wrap64 (cs.getD j 0+1))
def cnt0:List Int:=List.replicate 23 0
section
variable {cs:List Int} {g j:Nat} {w w':Go.World} {G:Set_}
theorem CntAt.lt (h:CntAt cs g w):g < w.heap.size:=blk_lt h.1
theorem CntAt.cell (h:CntAt cs g w) (hj:j < 23):w.cell? ⟨g,j,none⟩=some (.int .i64 (cs.getD j 0)):=by
 refine(blk_cell h.1 j).trans ?_
 have h2:j < cs.length:=by rw[h.2];exact hj
 simp[List.getElem?_toArray,List.getD_eq_getElem?_getD,List.getElem?_eq_getElem h2]
theorem CntAt.frozen (h:CntAt cs g w):w.frozen? ⟨g,j,none⟩=false:=blk_frozen h.1 j
theorem CntAt.set (h:CntAt cs g w) (v:Int):CntAt (cs.set j v) g (w.setCell ⟨g,j,none⟩ (.int .i64 v)):=by
 refine⟨(blk_set h.1 j (.int .i64 v)).trans ?_,by simp[h.2]⟩
 congr 2
 apply Array.ext'
 simp[List.map_set]
theorem CntAt.bump (h:CntAt cs g w):CntAt (K.bump cs j) g (w.setCell ⟨g,j,none⟩ (.int .i64 (wrap64 (cs.getD j 0+1)))):=h.set _
theorem CntAt.keep (h:CntAt cs g w) (hk:KS G w w') (hG:¬ G g):CntAt cs g w':=⟨hk.at_ h.1 hG,h.2⟩
theorem CntAt.below (h:CntAt cs g w) (hb:Below w.heap.size w w'):CntAt cs g w':=⟨blk_below h.1 hb,h.2⟩
theorem CntAt.new (w:Go.World):CntAt cnt0 w.heap.size (w.alloc (.cells (cnt0.map fun v=>Value.int .i64 v).toArray 79)):=⟨blk_new w _,rfl⟩
end
def sentN (cs:List Int):List Let->List Int
 | []=>cs
 | x :: xs=>sentN (bump cs (7+(kindN x.kind).toNat)) xs
def kindsN (cs:List Int) (e:Ent) (was:List Let):List Int×Nat :=
 if e.kind=4 then (bump cs 3,0) else if e.kind=3 then (bump cs 4,1) else if e.kind=2 then (bump cs (15+(kindN (was.getD e.a.toNat letE.d).kind).toNat),1) else (cs,0)
def entryN (cs:List Int) (e:Ent) (was now:List Let):List Int:=sentN (kindsN cs e was).1 (now.drop (was.length - (kindsN cs e was).2))
theorem kindN_lt (k:Int):0≤kindN k/\kindN k < 8:=by unfold kindN;split <;> omega
end Go.Proofs.YtiebppkhaiofeaaGreat.K
