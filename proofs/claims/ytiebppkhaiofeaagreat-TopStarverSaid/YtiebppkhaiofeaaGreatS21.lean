/- Part of the proof of TopStarver: what functions of the program do. -/
import Derived.Test.YtiebppkhaiofeaaGreatS20
import Derived.Test.YtiebppkhaiofeaaGreatS13
set_option maxHeartbeats 4000000
set_option maxRecDepth 100000
set_option linter.unusedVariables false
set_option linter.unusedSimpArgs false
namespace Go.Proofs.YtiebppkhaiofeaaGreat.K
open Go.RowKit Go.Proofs.YtiebppkhaiofeaaGreatW.PrintWords Go.Proofs.YtiebppkhaiofeaaGreat.S
attribute [local go_sem] World.cell?_alloc_some
open Go.MapKept
theorem memTake_no {bs:List Bun} {b:Nat} {F:Set_} {w:Go.World} (hM:MemAt bs b F w) {k:Int} (hk:memHas bs k=false) (n:Int) (o d:Bool):Calls Tryz.prog 123 #[.pointer (some ⟨b,0,none⟩),.int .i64 k,.int .i64 n,.bool o,.bool d] w (MemP (bunV b0) bs b F w):=by
 have M:=AS hM
 obtain⟨v,hB,hO,hv,hb,hf,h6⟩:=hM
 obtain⟨A,cp,rfl,hr,hc,hm,hn⟩:=hO.row
 have B1:=AS (blk_alloc hB (.cells #[.int .i64 0,.bool false,.bool false,.int .i64 0] 45))
 have hk':decide (0≤k/\k < (bs.length:Int))=false:=hk
 clear hr hO hB hf hv hn hk
 go_enter Tryz.func123,Tryz.ntmps123
 go_wp2_with fail
 refine(memIs_blk B1.out k).mono ?_
 rintro e w1 ⟨rfl,rfl⟩
 rw[hk']
 go_wp2
 have hbl:Below w.heap.size w (w.alloc (.cells #[.int .i64 0,.bool false,.bool false,.int .i64 0] 45)):=below_alloc (Below.refl _ _) _
 exact bodyPost_ret (v:=bunV b0) (by simp[results,Tryz.results123,go_sem,bunV,b0]) rfl ⟨rfl,M.out.keep (KS.below (fun _=>False) (by repeat (first | with_reducible exact Below.refl _ _ | with_reducible apply below_alloc | with_reducible refine Below.setCell ?_ (by dsimp only;omega) _))) (fun x _ h=>⟨.inl h,id⟩),KS.below _ (by repeat (first | with_reducible exact Below.refl _ _ | with_reducible apply below_alloc | with_reducible refine Below.setCell ?_ (by dsimp only;omega) _))⟩
theorem memTake_yes {bs:List Bun} {b i:Nat} {F:Set_} {w:Go.World} (hM:MemAt bs b F w) (hi:i < bs.length) (n:Int) (o d:Bool):Calls Tryz.prog 123 #[.pointer (some ⟨b,0,none⟩),.int .i64 i,.int .i64 n,.bool o,.bool d] w (MemP (bunV (split (bs.getD i b0) n o d).1) (bs.set i (split (bs.getD i b0) n o d).2) b F w):=by
 have hlb:=hM.lt
 obtain⟨v,hB,hO,hv,hb,hf,h6⟩:=hM
 obtain⟨g',cap,rfl,hc63,hcap,hlt',-⟩:=own_some hO hi
 have hC:=bun_cells hO hi
 obtain⟨⟨e0,e1,e2,e3⟩,ez⟩:=hC
 generalize hy:bs.getD i b0=y at *
 obtain⟨y0,y1,y2,y3⟩:=y
 simp only at e0 e1 e2 e3
 have hne:b≠g':=fun e=>hv (by simp[foot_slice,e])
 have HF:=AS (And.intro hb (And.intro (hf g' (by simp[foot_slice])) (And.intro hlb hlt')))
 have c0:=cw hB 0 (v:=.slice (some ⟨g',0,none⟩) bs.length cap)
 have B1:=AS (blk_alloc hB (.cells #[.int .i64 0,.bool false,.bool false,.int .i64 0] 45))
 have XR:=AS (blk_new w (.cells #[.int .i64 0,.bool false,.bool false,.int .i64 0] 45))
 have HW:=AS (show ∀ w1,Below w.heap.size w w1->w1.heap[b]?=some (.cells #[.slice (some ⟨g',0,none⟩) bs.length cap] 168 (0,0))/\OwnE bunE (.slice (some ⟨g',0,none⟩) bs.length cap) bs w1 from fun w1 hb=>⟨blk_below hB hb,hO.ks (KS.below (fun _=>False) hb) (fun _ _=>id)⟩)
 have hk':decide (0≤(i:Int)/\(i:Int) < (bs.length:Int))=true:=by simp[hi]
 have q0:(0:Int)≤(i:Int):=by omega
 have q1:(i:Int) < (bs.length:Int):=by omega
 have HN:=AS hne
 generalize hj:split ⟨y0,y1,y2,y3⟩ n o d=jn
 have HJ:=AS hj
 obtain⟨⟨s0,s1,s2,s3⟩,⟨r0,r1,r2,r3⟩⟩:=jn
 clear hO hB hf hv hb hne hj hlb hlt'
 go_enter Tryz.func123,Tryz.ntmps123
 go_wp2_with fail
 refine(memIs_blk B1.out i).mono ?_
 rintro e w1 ⟨rfl,rfl⟩
 rw[hk']
 go_wp2_with fail
 refine(split_any _ _ _ _ _ _ _ _).mono ?_
 rintro e w1 ⟨rfl,hbl⟩
 rw[HJ.out]
 simp only[bunV]
 have XS:=AS (blk_below XR.out hbl)
 have BB:=AS (show Below w.heap.size w w1 from(below_alloc (Below.refl _ _) _).trans (hbl.mono (by simp)))
 have W1:=AS (HW.out w1 BB.out)
 have HS:=AS (show w.heap.size+1≤w1.heap.size from by have:=hbl.size;simpa using this)
 clear hbl c0 e0 e1 e2 e3 ez B1 XR HW
 go_upto_region 4 with fail
 have Y1:=AS (blk_alloc (blk_new w1 (.cells #[.int .i64 s0,.bool s1,.bool s2,.int .i64 s3] 45)) (.cells #[.int .i64 r0,.bool r1,.bool r2,.int .i64 r3] 45))
 have Y2:=AS (show((w1.alloc (.cells #[.int .i64 s0,.bool s1,.bool s2,.int .i64 s3] 45)).alloc (.cells #[.int .i64 r0,.bool r1,.bool r2,.int .i64 r3] 45)).heap[w1.heap.size+1]?=some (.cells #[.int .i64 r0,.bool r1,.bool r2,.int .i64 r3] 45) from by have:=blk_new (w1.alloc (.cells #[.int .i64 s0,.bool s1,.bool s2,.int .i64 s3] 45)) (.cells #[.int .i64 r0,.bool r1,.bool r2,.int .i64 r3] 45);simpa using this)
 have Y3:=AS (blk_alloc (blk_alloc XS.out (.cells #[.int .i64 s0,.bool s1,.bool s2,.int .i64 s3] 45)) (.cells #[.int .i64 r0,.bool r1,.bool r2,.int .i64 r3] 45))
 have hb2:Below w1.heap.size w1 ((w1.alloc (.cells #[.int .i64 s0,.bool s1,.bool s2,.int .i64 s3] 45)).alloc (.cells #[.int .i64 r0,.bool r1,.bool r2,.int .i64 r3] 45)):=below_alloc (below_alloc (Below.refl _ _) _) _
 have Y4:=AS (And.intro (blk_below W1.out.1 hb2) (W1.out.2.ks (KS.below (fun _=>False) hb2) (fun _ _=>id)))
 have Y5:=AS (BB.out.trans (hb2.mono BB.out.size))
 clear hb2 XS W1
 generalize (w1.alloc (.cells #[.int .i64 s0,.bool s1,.bool s2,.int .i64 s3] 45)).alloc (.cells #[.int .i64 r0,.bool r1,.bool r2,.int .i64 r3] 45)=W at Y1 Y2 Y3 Y4 Y5 ⊢
 have C1:=AS (bun_cells Y4.out.2 hi)
 have c0':=cw Y4.out.1 0 (v:=.slice (some ⟨g',0,none⟩) bs.length cap)
 have f0:=C1.out.1.1
 have f1:=C1.out.1.2.1
 have f2:=C1.out.1.2.2.1
 have f3:=C1.out.1.2.2.2
 have fz:=C1.out.2
 have u0:=cw Y1.out 0 (v:=.int .i64 s0)
 have u1:=cw Y1.out 1 (v:=.bool s1)
 have u2:=cw Y1.out 2 (v:=.bool s2)
 have u3:=cw Y1.out 3 (v:=.int .i64 s3)
 have v0:=cw Y2.out 0 (v:=.int .i64 r0)
 have v1:=cw Y2.out 1 (v:=.bool r1)
 have v2:=cw Y2.out 2 (v:=.bool r2)
 have v3:=cw Y2.out 3 (v:=.int .i64 r3)
 have z0:=cw Y3.out 0 (v:=.int .i64 0)
 have z1:=cw Y3.out 1 (v:=.bool false)
 have z2:=cw Y3.out 2 (v:=.bool false)
 have z3:=cw Y3.out 3 (v:=.int .i64 0)
 have zz0:=blk_frozen Y3.out 0
 have zz1:=blk_frozen Y3.out 1
 have zz2:=blk_frozen Y3.out 2
 have zz3:=blk_frozen Y3.out 3
 have hz1:w.heap.size≠g':=by have:=HF.out.2.2.2;omega
 have hz2:w1.heap.size≠g':=by have:=HF.out.2.2.2;have:=HS.out;omega
 have hz3:w.heap.size≠w1.heap.size:=by have:=HS.out;omega
 have hz4:w1.heap.size+1≠g':=by have:=HF.out.2.2.2;have:=HS.out;omega
 go_region
 all_goals
  go_wp2
  refine bodyPost_ret (v:=bunV ⟨s0,s1,s2,s3⟩) (by simp[results,Tryz.results123,go_sem,bunV,z0,z1,z2,z3,hz1,hz2,hz3,Ne.symm hz1,Ne.symm hz2]) rfl ?_
  have M4:=memWrite (F:=fun x=>F x/\x < w.heap.size) Y4.out.1 Y4.out.2 hi ⟨r0,r1,r2,r3⟩ ⟨HF.out.1,HF.out.2.2.1⟩ ⟨HF.out.2.1,HF.out.2.2.2⟩ HN.out h6 (KS.below _ Y5.out)
  refine⟨rfl,M4.1.keep (KS.drew (((((KS.refl (fun x=>x=w.heap.size) _).set (g:=w.heap.size) (.inl rfl) 0 (.int .i64 s0)).set (g:=w.heap.size) (.inl rfl) 1 (.bool s1)).set (g:=w.heap.size) (.inl rfl) 2 (.bool s2)).set (g:=w.heap.size) (.inl rfl) 3 (.int .i64 s3))) (fun x _ h=>⟨.inl h.1,by have:=h.2;show ¬ x=w.heap.size;omega⟩),?_⟩
  exact KS.drew (((((KS.mono M4.2 (fun x _ h=>h.1)).set (g:=w.heap.size) (.inr (Nat.le_refl _)) 0 (.int .i64 s0)).set (g:=w.heap.size) (.inr (Nat.le_refl _)) 1 (.bool s1)).set (g:=w.heap.size) (.inr (Nat.le_refl _)) 2 (.bool s2)).set (g:=w.heap.size) (.inr (Nat.le_refl _)) 3 (.int .i64 s3))
theorem memTake_any {bs:List Bun} {b:Nat} {F:Set_} {w:Go.World} (hM:MemAt bs b F w) (k n:Int) (o d:Bool):Calls Tryz.prog 123 #[.pointer (some ⟨b,0,none⟩),.int .i64 k,.int .i64 n,.bool o,.bool d] w (MemP (bunV (if memHas bs k then (split (memGet bs k) n o d).1 else b0)) (if memHas bs k then memSet bs k (split (memGet bs k) n o d).2 else bs) b F w):=by
 cases h1:memHas bs k with
 | false =>
  simp only[Bool.false_eq_true,if_false]
  exact memTake_no hM h1 n o d
 | true =>
  obtain⟨m,rfl,hn⟩:=memHas_nat h1
  rw[show memGet bs m=bs.getD m b0 by simp[memGet,h1]]
  simp only[if_true,memSet,h1,Int.toNat_natCast]
  exact memTake_yes hM hn n o d
theorem memNew_any (nb tk:Int) (w:Go.World):Calls Tryz.prog 46 #[.int .i64 nb,.int .i64 tk] w fun e w'=>∃ b,e=.returned (.pointer (some ⟨b,0,none⟩))/\MemAt (List.replicate (clamp nb 0 64).toNat (full tk 0)) b (nw w) w'/\Below w.heap.size w w':=by
 generalize hn:(clamp nb 0 64).toNat=n
 have hc:clamp nb 0 64=(n:Int)/\n≤64:=by unfold clamp at hn ⊢;omega
 have HC:=AS hc.1
 have hn64:=hc.2
 have hmk:=run_makeE (E:=bunE) n (by show _ * 24≤_;omega) w
 have OM:=AS (ownE_made (E:=bunE) n (by show _ * 24≤_;omega) w)
 have BA:=AS (below_alloc (Below.refl w.heap.size w) (Obj.cells (flat bunE (List.replicate n bunE.d)).toArray bunE.T))
 clear hc hn
 simp only[show bunE.S=38 from rfl] at hmk
 generalize (Obj.cells (flat bunE (List.replicate n bunE.d)).toArray bunE.T)=ob at *
 go_enter Tryz.func46,Tryz.ntmps46
 go_wp2_with fail
 refine(clamp_any _ _ _ _).mono ?_
 rintro e w1 ⟨rfl,rfl⟩
 rw[HC.out]
 go_wp2_with fail
 have Y0:=AS (show((w.alloc ob).alloc (.cells #[.slice (some ⟨w.heap.size,0,none⟩) n n] 168)).heap[w.heap.size+1]?=some (.cells #[.slice (some ⟨w.heap.size,0,none⟩) n n] 168) from by have:=blk_new (w.alloc ob) (.cells #[.slice (some ⟨w.heap.size,0,none⟩) n n] 168);simpa using this)
 have O0:=AS (OM.out.ks (KS.below (fun _=>False) (below_alloc (Below.refl _ _) (.cells #[.slice (some ⟨w.heap.size,0,none⟩) n n] 168))) (fun _ _=>id))
 have B0:=AS (below_alloc BA.out (.cells #[.slice (some ⟨w.heap.size,0,none⟩) n n] 168))
 generalize (w.alloc ob).alloc (.cells #[.slice (some ⟨w.heap.size,0,none⟩) n n] 168)=W0 at Y0 O0 B0 ⊢
 clear OM BA hmk
 go_loopw [6,17] (fun v6 v17 wr=>∃ (i:Nat),v17=.int .i64 i/\i≤n/\Aside0 (wr.heap[w.heap.size+1]?=some (.cells #[.slice (some ⟨w.heap.size,0,none⟩) n n] 168)/\OwnE bunE (.slice (some ⟨w.heap.size,0,none⟩) n n) (List.replicate i (full tk 0) ++ List.replicate (n - i) b0) wr/\Below w.heap.size w wr)) (fun _ v17 _=>65 - (intOf v17).toNat)
 case atStart=>exact⟨0,rfl,by omega,⟨Y0.out,O0.out,B0.out⟩⟩
 case round =>
  obtain⟨i,rfl,hi,R⟩:=hrel
  by_cases c1:i < n
  ·have hl:(List.replicate i (full tk 0) ++ List.replicate (n - i) b0).length=n:=by simp;omega
   have OB:Aside0 (OwnE bunE (.slice (some ⟨w.heap.size,0,none⟩) (List.replicate i (full tk 0) ++ List.replicate (n - i) b0).length n) (List.replicate i (full tk 0) ++ List.replicate (n - i) b0) wr):=⟨by rw[hl];exact R.out.2.1⟩
   have HL:=AS hl
   clear hl
   have q1:(i:Int) < (n:Int):=by omega
   have q0:(0:Int)≤(i:Int):=by omega
   have c0:=cw R.out.1 0 (v:=.slice (some ⟨w.heap.size,0,none⟩) n n)
   generalize hfu:full tk 0=fu at *
   have HFU:=AS hfu
   obtain⟨f0,f1,f2,f3⟩:=fu
   clear hfu
   go_wp2_with fail
   go_region_with (go_at_call 74;refine(full_any _ _ _).mono ?_;rintro e w1 ⟨rfl,hbl⟩;rw[HFU.out];simp only[bunV];have BB:=AS (show Below wr.heap.size wr w1 from(Below.drew (Below.refl _ _)).trans (hbl.mono (Nat.le_refl _)));clear hbl;have W1:=AS (blk_below R.out.1 BB.out);have O1:=AS (OB.out.ks (KS.below (fun _=>False) BB.out) (fun _ _=>id));have C1:=AS (bun_cells O1.out (by have:=HL.out;omega:i < _));have c0':w1.cell? ⟨w.heap.size+1,0,none⟩=some (.slice (some ⟨w.heap.size,0,none⟩) n n):=cw W1.out 0;have g0:=C1.out.1.1;have g1:=C1.out.1.2.1;have g2:=C1.out.1.2.2.1;have g3:=C1.out.1.2.2.2;have gz:=C1.out.2)
   all_goals
    go_wp2
    go_roundw
    case rel =>
     refine⟨i+1,by go_num,by omega,⟨?_,?_,?_⟩⟩
     ·exact blk_far (blk_far (blk_far (blk_far W1.out (p:=⟨w.heap.size,_,none⟩) (by simp) _) (p:=⟨w.heap.size,_,none⟩) (by simp) _) (p:=⟨w.heap.size,_,none⟩) (by simp) _) (p:=⟨w.heap.size,_,none⟩) (by simp) _
     ·have hs:=bun_set O1.out (by have:=HL.out;omega:i < _) ⟨f0,f1,f2,f3⟩
      rw[HL.out] at hs
      have e1:(List.replicate i (⟨f0,f1,f2,f3⟩:Bun) ++ List.replicate (n - i) b0).set i ⟨f0,f1,f2,f3⟩=List.replicate (i+1) ⟨f0,f1,f2,f3⟩ ++ List.replicate (n - (i+1)) b0:=by
       rw[List.set_append_right _ _ (by simp)]
       rw[show n - i=(n - (i+1))+1 by omega,List.replicate_succ]
       simp[List.replicate_succ']
      rw[e1] at hs
      exact hs
     ·have hb:=R.out.2.2.trans (BB.out.mono R.out.2.2.size)
      exact(((hb.setCell (p:=⟨_,_,none⟩) (Nat.le_refl _) _).setCell (p:=⟨_,_,none⟩) (Nat.le_refl _) _).setCell (p:=⟨_,_,none⟩) (Nat.le_refl _) _).setCell (p:=⟨_,_,none⟩) (Nat.le_refl _) _
    case measure=>simp[intOf];omega
  ·have hin:i=n:=by omega
   subst hin
   go_wp2
   go_ret
   refine⟨_,rfl,⟨_,R.out.1,by simpa using R.out.2.1,by simp[foot_slice],by show _≤_;omega,by intro x hx;simp[foot_slice] at hx;subst hx;exact Nat.le_refl _,by simpa using hn64⟩,R.out.2.2⟩
end Go.Proofs.YtiebppkhaiofeaaGreat.K
namespace Go.Proofs.YtiebppkhaiofeaaGreat.K
open Go.RowKit Go.Proofs.YtiebppkhaiofeaaGreatW.PrintWords Go.Proofs.YtiebppkhaiofeaaGreat.S
attribute [local go_sem] World.cell?_alloc_some
open Go.ChangeMaps Go.MapKept
def Stays (P:(Nat->Nat)->Go.World->Prop) (m:Nat):Prop:=∀ (K K':Nat->Nat) (G:Set_) (w w':Go.World),P K w->KS G w w'->(∀ x,x < w.heap.size->K x≤m->K' x=K x/\¬ G x)->P K' w'
def GX (P:(Nat->Nat)->Go.World->Prop) (m:Nat) (K:Nat->Nat) (w:Go.World) (bx:List (Nat×Obj)) (w':Go.World):Prop:=∃ K',(∀ x,x < w.heap.size->K' x=K x)/\P K' w'/\KS (fun x=>K x≤m) w w'/\(∀ q∈bx,m < K' q.1/\w.heap.size≤q.1/\w'.heap[q.1]?=some q.2)/\(bx.map (·.1)).Nodup
def GP (v:Value) (P':(Nat->Nat)->Go.World->Prop) (m:Nat) (K:Nat->Nat) (w:Go.World) (e:Ending) (w':Go.World):Prop:=e=.returned v/\∃ K',(∀ x,x < w.heap.size->K' x=K x)/\P' K' w'/\KS (fun x=>K x≤m) w w'
section
variable {P P':(Nat->Nat)->Go.World->Prop} {m:Nat} {K:Nat->Nat} {w w1 w2:Go.World} {bx:List (Nat×Obj)}
theorem GX.refl (h:P K w):GX P m K w [] w:=⟨K,fun _ _=>rfl,h,KS.refl _ w,(fun q hq=>by cases hq),List.nodup_nil⟩
theorem GX.at_ (h:GX P m K w bx w1) {g:Nat} {ob:Obj} (hq:(g,ob)∈bx):w1.heap[g]?=some ob:=by obtain⟨K1,-,-,-,h4,-⟩:=h;exact(h4 _ hq).2.2
theorem GX.have_ {Q:Prop} (h:GX P m K w bx w1) (hs:∀ K1,P K1 w1->Q):Q:=by obtain⟨K1,-,h,-⟩:=h;exact hs K1 h
theorem GX.new (hP:Stays P m) (h:GX P m K w bx w1) (hb:Below w1.heap.size w1 w2) {g:Nat} {ob:Obj} (hg:w1.heap.size≤g) (ho:w2.heap[g]?=some ob):GX P m K w ((g,ob) :: bx) w2:=by
 obtain⟨K1,ha,hN,hk,hB,hD⟩:=h
 have hsz:=hk.size
 refine⟨rec_ K1 w1 (m+1),fun x hx=>(rec_old (by omega)).trans (ha x hx),hP _ _ (fun _=>False) _ _ hN (KS.below _ hb) (fun x hx _=>⟨rec_old hx,id⟩),hk.trans (KS.below (fun _=>False) hb) (fun x _ h=>h.elim),fun q hq=>?_,List.nodup_cons.2 ⟨fun hm=>?_,hD⟩⟩
 ·rcases List.mem_cons.1 hq with rfl | hq
  ·exact⟨by simp only;rw[rec_new hg];omega,by show _≤g;omega,ho⟩
  ·have hlt:=blk_lt (hB q hq).2.2
   exact⟨by rw[rec_old hlt];exact(hB q hq).1,(hB q hq).2.1,(hb.block _ hlt).trans (hB q hq).2.2⟩
 ·obtain⟨q,hq,e⟩:=List.mem_map.1 hm
  have hlt:=blk_lt (hB q hq).2.2
  have e':q.1=g:=e
  omega
theorem GX.tail {q:Nat×Obj} (h:GX P m K w (q :: bx) w1):GX P m K w bx w1:=by
 obtain⟨K1,ha,hN,hk,hB,hD⟩:=h
 exact⟨K1,ha,hN,hk,(fun x hx=>hB x (List.mem_cons_of_mem _ hx)),(List.nodup_cons.1 hD).2⟩
theorem GX.below (hP:Stays P m) (h:GX P m K w bx w1) (hb:Below w1.heap.size w1 w2):GX P m K w bx w2:=by
 obtain⟨K1,ha,hN,hk,hB,hD⟩:=h
 have hsz:=hk.size
 refine⟨rec_ K1 w1 (m+1),fun x hx=>(rec_old (by omega)).trans (ha x hx),hP _ _ (fun _=>False) _ _ hN (KS.below _ hb) (fun x hx _=>⟨rec_old hx,id⟩),hk.trans (KS.below (fun _=>False) hb) (fun x _ h=>h.elim),fun q hq=>?_,hD⟩
 have hlt:=blk_lt (hB q hq).2.2
 exact⟨by rw[rec_old hlt];exact(hB q hq).1,(hB q hq).2.1,(hb.block _ hlt).trans (hB q hq).2.2⟩
theorem GX.box (hP:Stays P m) (h:GX P m K w bx w1) (ob:Obj):GX P m K w ((w1.heap.size,ob) :: bx) (w1.alloc ob):=GX.new hP h (below_alloc (Below.refl _ _) ob) (Nat.le_refl _) (blk_new w1 ob)
theorem GX.drew (hP:Stays P m) (h:GX P m K w bx w1):GX P m K w bx w1.drew:=GX.below hP h (Below.drew (Below.refl _ _))
theorem GX.via (h:GX P m K w bx w1) {v:Value} {e:Ending} (hs:∀ K1,P K1 w1->GP v P' m K1 w1 e w2):e=.returned v/\GX P' m K w bx w2:=by
 obtain⟨K1,ha,hN,hk,hB,hD⟩:=h
 obtain⟨he,K2,hb,hN2,hk2⟩:=hs K1 hN
 have hsz:=hk.size
 exact⟨he,K2,fun x hx=>(hb x (by omega)).trans (ha x hx),hN2,hk.trans hk2 (fun x hx h=>by rw[<- ha x hx];exact h),fun q hq=>⟨by rw[hb _ (blk_lt (hB q hq).2.2)];exact(hB q hq).1,(hB q hq).2.1,hk2.at_ (hB q hq).2.2 (by have:=(hB q hq).1;show ¬ K1 q.1≤m;omega)⟩,hD⟩
theorem GX.call {f:Nat} {args:Array Value} {v:Value} (h:GX P m K w bx w1) (hs:∀ K1,P K1 w1->Calls Tryz.prog f args w1 (GP v P' m K1 w1)):Calls Tryz.prog f args w1 (fun e w'=>e=.returned v/\GX P' m K w bx w'):=by
 have h0:=h
 obtain⟨K1,ha,hN,hk,hB,hD⟩:=h
 refine(hs K1 hN).mono ?_
 rintro e w2 ⟨rfl,K2,hb,hN2,hk2⟩
 have hsz:=hk.size
 exact⟨rfl,K2,fun x hx=>(hb x (by omega)).trans (ha x hx),hN2,hk.trans hk2 (fun x hx h=>by rw[<- ha x hx];exact h),fun q hq=>⟨by rw[hb _ (blk_lt (hB q hq).2.2)];exact(hB q hq).1,(hB q hq).2.1,hk2.at_ (hB q hq).2.2 (by have:=(hB q hq).1;show ¬ K1 q.1≤m;omega)⟩,hD⟩
theorem GX.put (hP:Stays P m) {g:Nat} {ob ob':Obj} (h:GX P m K w ((g,ob) :: bx) w1) (hk2:KS (fun x=>x=g) w1 w2) (ho:w2.heap[g]?=some ob'):GX P m K w ((g,ob') :: bx) w2:=by
 obtain⟨K1,ha,hN,hk,hB,hD⟩:=h
 have hd:∀ q∈bx,q.1≠g:=fun q hq e=>(List.nodup_cons.1 hD).1 (List.mem_map.2 ⟨q,hq,e⟩)
 have hsz:=hk.size
 have hg7:=(hB _ (List.mem_cons_self)).1
 have hgw:=(hB _ (List.mem_cons_self)).2.1
 simp only at hg7 hgw
 refine⟨rec_ K1 w1 (m+1),fun x hx=>(rec_old (by omega)).trans (ha x hx),hP _ _ _ _ _ hN hk2 (fun x hx h5=>⟨rec_old hx,fun e=>?_⟩),⟨hk2.1.trans hk.1,hk2.2.1.trans hk.2.1,hk2.2.2.1.trans hk.2.2.1,Nat.le_trans hsz hk2.size,fun i hi hF=>(hk2.2.2.2.2 i (by omega) (fun e=>by have e':i=g:=e;omega)).trans (hk.2.2.2.2 i hi hF)⟩,fun q hq=>?_,hD⟩
 ·have e':x=g:=e
  rw[e'] at h5;omega
 ·rcases List.mem_cons.1 hq with rfl | hq
  ·exact⟨by simp only;rw[rec_old (blk_lt (hB _ (List.mem_cons_self)).2.2)];exact hg7,hgw,ho⟩
  ·have hlt:=blk_lt (hB q (List.mem_cons_of_mem _ hq)).2.2
   exact⟨by rw[rec_old hlt];exact(hB q (List.mem_cons_of_mem _ hq)).1,(hB q (List.mem_cons_of_mem _ hq)).2.1,hk2.at_ (hB q (List.mem_cons_of_mem _ hq)).2.2 (hd q hq)⟩
theorem GX.pass (hP:Stays P m) {g:Nat} {ob:Obj} (h:GX P m K w ((g,ob) :: bx) w1) (hk2:KS (fun x=>x=g) w1 w2):GX P m K w bx w2:=by
 have hlt:=blk_lt (h.at_ (List.mem_cons_self))
 have hlt2:=hk2.size
 obtain⟨ob',ho⟩:∃ ob',w2.heap[g]?=some ob':=⟨w2.heap[g],Array.getElem?_eq_getElem (by omega)⟩
 exact(GX.put hP h hk2 ho).tail
theorem GX.row (hP:Stays P m) {α:Type} {E:El α} {v:Value} {xs:List α} (h:GX P m K w bx w1) (hb:Below w1.heap.size w1 w2) (hO:OwnE E v xs w2) (hf:∀ x∈foot v,w1.heap.size≤x):∃ bx',GX P m K w (bx' ++ bx) w2/\(∀ x∈foot v,∃ ob,(x,ob)∈bx'):=by
 rcases hO.cases with ⟨rfl,rfl⟩ | ⟨g,cap,cur,rfl,hg,-⟩
 ·exact⟨[],GX.below hP h hb,fun x hx=>by simp[foot_nil] at hx⟩
 ·exact⟨[(g,.cells cur E.T (0,0))],GX.new hP h hb (hf g (by simp[foot_slice])) hg,fun x hx=>⟨_,by simp[foot_slice] at hx;subst hx;exact List.mem_singleton.2 rfl⟩⟩
theorem GX.rowAt {α:Type} {E:El α} {v:Value} {xs:List α} {bx':List (Nat×Obj)} (hO:OwnE E v xs w1) (hx:∀ x∈foot v,∃ ob,(x,ob)∈bx') (h1:GX P m K w bx w1) (h2:GX P' m K w bx w2) (hs:∀ q∈bx',q∈bx):OwnE E v xs w2 :=
 hO.at_ fun b hb=>by
  obtain⟨ob,hm⟩:=hx b hb
  rw[h2.at_ (hs _ hm),h1.at_ (hs _ hm)]
end
def homeC (c:Cfg) (bm bq:Nat):Array Value:=#[.int .i64 c.nodes,.int .i64 c.blocks,.int .i64 c.tokens,.int .i64 c.sets,.int .i64 c.ways,.int .i64 c.cap,.int .i64 c.wait,.int .i64 c.tries,.int .i64 c.policy,.pointer (some ⟨bm,0,none⟩),.pointer (some ⟨bq,0,none⟩)]
def HomeK (c:Cfg) (h:S.Home) (b bm bq:Nat) (K:Nat->Nat) (w:Go.World):Prop:=w.heap[b]?=some (.cells (homeC c bm bq) 124 (0,0))/\K b=0/\MemAt h.mem bm (fun x=>K x=1) w/\ArbX h.queue bq (fun x=>K x=2) w
theorem homeStays (c:Cfg) (h:S.Home) (b bm bq:Nat):Stays (HomeK c h b bm bq) 2:=fun K K' G w w' hH hk hs=>by
 obtain⟨h1,h2,h3,h4⟩:=hH
 have e1:=hs b (blk_lt h1) (by omega)
 exact⟨hk.at_ h1 e1.2,by rw[e1.1];exact h2,h3.keep hk (fun x hx hF=>by have hF':K x=1:=hF;have:=hs x hx (by omega);exact⟨by show K' x=1;omega,this.2⟩),h4.keep hk (fun x hx hF=>by have hF':K x=2:=hF;have:=hs x hx (by omega);exact⟨by show K' x=2;omega,this.2⟩)⟩
section
variable {c:Cfg} {h:S.Home} {b bm bq:Nat} {K:Nat->Nat} {w w':Go.World} {e:Ending} {v:Value}
theorem HomeK.memP (hH:HomeK c h b bm bq K w) {bs:List Bun} (hp:MemP v bs bm (fun x=>K x=1) w e w'):GP v (HomeK c { h with mem:=bs } b bm bq) 2 K w e w':=by
 obtain⟨h1,h2,h3,h4⟩:=hH
 obtain⟨rfl,hM,hk⟩:=hp
 have e1:=rec_old (K:=K) (k:=1) (blk_lt h1)
 refine⟨rfl,rec_ K w 1,fun x hx=>rec_old hx,⟨hk.at_ h1 (by show ¬ _=_;omega),by omega,hM.keep (KS.refl (fun _=>False) w') (fun x hx hF=>⟨?_,id⟩),h4.keep hk (fun x hx hF=>?_)⟩,hk.mono (fun x _ h=>by have h':K x=1:=h;show K x≤2;omega)⟩
 ·show rec_ K w 1 x=1
  rcases hF with hF | hF
  ·by_cases hl:x < w.heap.size
   ·rw[rec_old hl];exact hF
   ·rw[rec_new (by omega)]
  ·exact rec_new hF
 ·have hF':K x=2:=hF
  exact⟨by show rec_ K w 1 x=2;rw[rec_old hx];exact hF',by show ¬ _=_;omega⟩
theorem HomeK.arbP (hH:HomeK c h b bm bq K w) {a:Arb} (hp:ArbP v a bq (fun x=>K x=2) w e w'):GP v (HomeK c { h with queue:=a } b bm bq) 2 K w e w':=by
 obtain⟨h1,h2,h3,h4⟩:=hH
 obtain⟨rfl,hM,hk⟩:=hp
 have e1:=rec_old (K:=K) (k:=2) (blk_lt h1)
 refine⟨rfl,rec_ K w 2,fun x hx=>rec_old hx,⟨hk.at_ h1 (by show ¬ _=_;omega),by omega,h3.keep hk (fun x hx hF=>?_),hM.keep (KS.refl (fun _=>False) w') (fun x hx hF=>⟨?_,id⟩)⟩,hk.mono (fun x _ h=>by have h':K x=2:=h;show K x≤2;omega)⟩
 ·have hF':K x=1:=hF
  exact⟨by show rec_ K w 2 x=1;rw[rec_old hx];exact hF',by show ¬ _=_;omega⟩
 ·show rec_ K w 2 x=2
  rcases hF with hF | hF
  ·by_cases hl:x < w.heap.size
   ·rw[rec_old hl];exact hF
   ·rw[rec_new (by omega)]
  ·exact rec_new hF
theorem is_mem (h:S.Home) (k:Int):h.is k=memHas h.mem k:=by
 unfold Home.is memHas
 rw[Bool.eq_iff_iff];simp
theorem get_mem (h:S.Home) (k:Int):h.get k=memGet h.mem k:=by unfold Home.get memGet;rw[is_mem]
theorem take_mem (h:S.Home) (k n:Int) (o d:Bool):h.memTake k n o d=({ h with mem:=if memHas h.mem k then memSet h.mem k (split (memGet h.mem k) n o d).2 else h.mem },if memHas h.mem k then (split (memGet h.mem k) n o d).1 else b0):=by
 unfold Home.memTake
 rw[is_mem,get_mem]
 cases hq:memHas h.mem k
 ·rfl
 ·simp[memSet,hq]
theorem put_mem (h:S.Home) (k:Int) (t:Bun):h.put k t={ h with mem:=memSet h.mem k (join (memGet h.mem k) t)}:=by
 unfold Home.put memSet
 rw[is_mem,get_mem]
 cases hq:memHas h.mem k <;> simp
theorem HomeK.take (hH:HomeK c h b bm bq K w) (k n:Int) (o d:Bool):Calls Tryz.prog 123 #[.pointer (some ⟨bm,0,none⟩),.int .i64 k,.int .i64 n,.bool o,.bool d] w (GP (bunV (h.memTake k n o d).2) (HomeK c (h.memTake k n o d).1 b bm bq) 2 K w):=by
 rw[take_mem]
 exact(memTake_any hH.2.2.1 k n o d).mono fun _ _ hp=>hH.memP hp
theorem HomeK.mput (hH:HomeK c h b bm bq K w) (k:Int) (t:Bun):Calls Tryz.prog 120 #[.pointer (some ⟨bm,0,none⟩),.int .i64 k,bunV t] w (GP (.bool (memHas h.mem k)) (HomeK c (h.put k t) b bm bq) 2 K w):=by
 rw[put_mem]
 exact(memPut_any hH.2.2.1 k t).mono fun _ _ hp=>hH.memP hp
theorem HomeK.ask (hH:HomeK c h b bm bq K w) (k n:Int) (hql:∀ r∈h.queue.rows,r.queue.length≤1000000):Calls Tryz.prog 125 #[.pointer (some ⟨bq,0,none⟩),.int .i64 k,.int .i64 n] w (GP (actO (h.queue.ask k n).2) (HomeK c { h with queue:=(h.queue.ask k n).1 } b bm bq) 2 K w) :=
 (arbAsk_any hH.2.2.2 k n hql).mono fun _ _ hp=>hH.arbP hp
theorem HomeK.ack (hH:HomeK c h b bm bq K w) (k s n:Int):Calls Tryz.prog 128 #[.pointer (some ⟨bq,0,none⟩),.int .i64 k,.int .i64 s,.int .i64 n] w (GP (actO (h.queue.ack k s n).2) (HomeK c { h with queue:=(h.queue.ack k s n).1 } b bm bq) 2 K w) :=
 (arbAck_any hH.2.2.2 k s n).mono fun _ _ hp=>hH.arbP hp
theorem HomeK.done (hH:HomeK c h b bm bq K w) (k s:Int):Calls Tryz.prog 126 #[.pointer (some ⟨bq,0,none⟩),.int .i64 k,.int .i64 s] w (GP (.bool (h.queue.done k s).2) (HomeK c { h with queue:=(h.queue.done k s).1 } b bm bq) 2 K w) :=
 (arbDone_any hH.2.2.2 k s).mono fun _ _ hp=>hH.arbP hp
end
theorem homeTokens_any {c:Cfg} {b bm bq:Nat} {w:Go.World} (hb:w.heap[b]?=some (.cells (homeC c bm bq) 124 (0,0))) (tt k:Int) (y:Bun):Calls Tryz.prog 119 #[.pointer (some ⟨b,0,none⟩),.int .i64 tt,.int .i64 k,bunV y] w (NewRow letE (Home.tokens c tt k y) w):=by
 obtain⟨c0,oo,hh,dd⟩:=y
 have BB:=AS (blk_new w (.cells #[.int .i64 c0,.bool oo,.bool hh,.int .i64 dd] 45))
 have HB:=AS (blk_alloc hb (.cells #[.int .i64 c0,.bool oo,.bool hh,.int .i64 dd] 45))
 have B1:=AS (below_alloc (Below.refl w.heap.size w) (.cells #[.int .i64 c0,.bool oo,.bool hh,.int .i64 dd] 45))
 have hblt:=blk_lt hb
 show Calls Tryz.prog 119 #[.pointer (some ⟨b,0,none⟩),.int .i64 tt,.int .i64 k,.agg #[.int .i64 c0,.bool oo,.bool hh,.int .i64 dd]] w (NewRow letE (if c0 < 1 then [] else [tokensL c.nodes tt k ⟨c0,oo,hh,dd⟩]) w)
 clear hb
 go_enter Tryz.func119,Tryz.ntmps119
 go_upto_region 1 with fail
 generalize hg:w.heap.size=g at *
 generalize w.alloc (.cells #[.int .i64 c0,.bool oo,.bool hh,.int .i64 dd] 45)=W at BB HB B1 ⊢
 have y0:=cw BB.out 0 (v:=.int .i64 c0)
 have y1:=cw BB.out 1 (v:=.bool oo)
 have y2:=cw BB.out 2 (v:=.bool hh)
 have y3:=cw BB.out 3 (v:=.int .i64 dd)
 have n0:=cw HB.out 0 (v:=.int .i64 c.nodes)
 by_cases q:c0 < 1
 ·rw[if_pos q]
  go_wp2
  go_ret
  exact⟨_,rfl,OwnE.nil _,by simp[foot_nil],by rw[hg];exact B1.out⟩
 ·rw[if_neg q]
  go_upto_region 3 with fail
  have KEEP:=AS (show ∀ x,Below W.heap.size W x->(x.cell? ⟨b,0,none⟩=some (.int .i64 c.nodes)/\x.cell? ⟨g,0,none⟩=some (.int .i64 c0)/\x.cell? ⟨g,1,none⟩=some (.bool oo)/\x.cell? ⟨g,2,none⟩=some (.bool hh)/\x.cell? ⟨g,3,none⟩=some (.int .i64 dd)) from fun x hx=>⟨cw (blk_below HB.out hx) 0,cw (blk_below BB.out hx) 0,cw (blk_below BB.out hx) 1,cw (blk_below BB.out hx) 2,cw (blk_below BB.out hx) 3⟩)
  go_region_held3 (fun x=>x.cell? ⟨b,0,none⟩=some (.int .i64 c.nodes)/\x.cell? ⟨g,0,none⟩=some (.int .i64 c0)/\x.cell? ⟨g,1,none⟩=some (.bool oo)/\x.cell? ⟨g,2,none⟩=some (.bool hh)/\x.cell? ⟨g,3,none⟩=some (.int .i64 dd)) ((refine KEEP.out _ ?_;(repeat (with_reducible first | exact Below.refl _ _ | exact B3.out | apply below_alloc | apply Below.drew)))) ((first | (go_at_call 130;refine(tokens_any _ _ _ _ _ _ _ _).mono ?_;rintro e w3 ⟨rfl,hb3⟩;have B3:=AS (show Below W.heap.size W w3 from(Below.drew (Below.refl _ _)).trans (hb3.mono (Nat.le_refl _)));clear hb3;simp only[letV,tokensL])))
  all_goals
   go_wp2
   go_ret
   refine⟨_,rfl,OwnE.mk (E:=letE) (xs:=[tokensL c.nodes tt k ⟨c0,oo,hh,dd⟩]) (blk_new w3 _) (by simp) (by decide) rfl (by rfl),?_,?_⟩
   ·intro x hx
    simp[foot_slice] at hx
    subst hx
    have:=B1.out.size;have:=B3.out.size;omega
   ·have hh3:=B1.out.trans ((below_alloc B3.out (.cells #[.int .i64 1,.int .i64 c.nodes,.int .i64 tt,.int .i64 k,.int .i64 0,.int .i64 0,.bool false,.int .i64 c0,.bool oo,.bool hh,.int .i64 dd] 47)).mono (by have:=B1.out.size;omega))
    rw[hg];exact hh3
def HRet (c:Cfg) (h:S.Home) (ls:List Let) (b bm bq:Nat) (K:Nat->Nat) (w:Go.World) (e:Ending) (w':Go.World):Prop :=
 ∃ v K',e=.returned v/\(∀ x,x < w.heap.size->K' x=K x)/\HomeK c h b bm bq K' w'/\OwnE letE v ls w'/\(∀ x∈foot v,w.heap.size≤x/\2 < K' x)/\KS (fun x=>K x≤2) w w'
section
variable {c:Cfg} {h:S.Home} {b bm bq:Nat} {K:Nat->Nat} {w w1 w2:Go.World} {bx bx':List (Nat×Obj)} {v:Value} {ls:List Let}
theorem GX.blkH (h1:GX (HomeK c h b bm bq) 2 K w bx w1):w1.heap[b]?=some (.cells (homeC c bm bq) 124 (0,0)):=h1.have_ fun K1 hh=>hh.1
theorem HRet.app {v':Value} (h1:GX (HomeK c h b bm bq) 2 K w bx w1) (hx:∀ x∈foot v,∃ ob,(x,ob)∈bx) (hk:Keeps (foot v) w1 w2) (hO:OwnE letE v' ls w2) (hf:foot v'=foot v∨foot v'=[w1.heap.size]):HRet c h ls b bm bq K w (.returned v') w2:=by
 obtain⟨K1,ha,hN,hk1,hB,hD⟩:=h1
 have hks:=KS.keeps hk
 have hsz:=hk1.size
 have hcol:∀ x,x∈foot v->x < w1.heap.size/\2 < K1 x/\w.heap.size≤x:=fun x hxf=>by
  obtain⟨ob,hm⟩:=hx x hxf
  exact⟨blk_lt (hB _ hm).2.2,(hB _ hm).1,(hB _ hm).2.1⟩
 refine⟨v',rec_ K1 w1 3,rfl,fun x hx'=>(rec_old (by omega)).trans (ha x hx'),homeStays c h b bm bq _ _ _ _ _ hN hks (fun x hx' h2=>⟨rec_old hx',fun e=>by have:=(hcol x e).2.1;omega⟩),hO,fun x hx'=>?_,hk1.trans hks (fun x hx' e=>by have:=(hcol x e).2.2;omega)⟩
 rcases hf with e | e
 ·rw[e] at hx'
  have:=hcol x hx'
  exact⟨this.2.2,by rw[rec_old this.1];exact this.2.1⟩
 ·rw[e] at hx'
  simp only[List.mem_singleton] at hx'
  subst hx'
  exact⟨by omega,by rw[rec_new (Nat.le_refl _)];omega⟩
theorem GX.apart (h1:GX (HomeK c h b bm bq) 2 K w bx w1) {x:Nat} {ob:Obj} (hx:(x,ob)∈bx):b≠x:=fun e=>by
 obtain⟨K1,ha,hN,hk1,hB,hD⟩:=h1
 have h2:=(hB _ hx).1
 have h0:=hN.2.1
 simp only at h2
 rw[<- e] at h2;omega
theorem HRet.none (h1:GX (HomeK c h b bm bq) 2 K w bx w1):HRet c h [] b bm bq K w (.returned (.slice none 0 0)) w1:=by
 obtain⟨K1,ha,hN,hk,hB,hD⟩:=h1
 exact⟨_,K1,rfl,ha,hN,OwnE.nil _,by simp[foot_nil],hk⟩
theorem HRet.row (h1:GX (HomeK c h b bm bq) 2 K w bx w1) (hO:OwnE letE v ls w1) (hx:∀ x∈foot v,∃ ob,(x,ob)∈bx):HRet c h ls b bm bq K w (.returned v) w1:=by
 obtain⟨K1,ha,hN,hk,hB,hD⟩:=h1
 exact⟨_,K1,rfl,ha,hN,hO,fun x hf=>by obtain⟨ob,hm⟩:=hx x hf;exact⟨(hB _ hm).2.1,(hB _ hm).1⟩,hk⟩
theorem HRet.new (h1:GX (HomeK c h b bm bq) 2 K w bx w1) (hb:Below w1.heap.size w1 w2) (hO:OwnE letE v ls w2) (hf:∀ x∈foot v,w1.heap.size≤x):HRet c h ls b bm bq K w (.returned v) w2:=by
 obtain⟨bx',h2,hx⟩:=GX.row (homeStays c h b bm bq) h1 hb hO hf
 exact HRet.row h2 hO (fun x hq=>by obtain⟨ob,hm⟩:=hx x hq;exact⟨ob,List.mem_append_left _ hm⟩)
end
end Go.Proofs.YtiebppkhaiofeaaGreat.K
