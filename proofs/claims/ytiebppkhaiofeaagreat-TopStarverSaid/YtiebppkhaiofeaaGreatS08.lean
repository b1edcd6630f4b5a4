/- Part of the proof of TopStarver: what functions of the program do. -/
import Derived.Test.YtiebppkhaiofeaaGreatS07
set_option maxHeartbeats 4000000
set_option maxRecDepth 100000
set_option linter.unusedVariables false
set_option linter.unusedSimpArgs false
namespace Go.Proofs.YtiebppkhaiofeaaGreat.K
open Go.RowKit Go.Proofs.YtiebppkhaiofeaaGreatW.PrintWords Go.Proofs.YtiebppkhaiofeaaGreat.S
attribute [local go_sem] World.cell?_alloc_some
open Go.ChangeMaps Go.MapKept
theorem notP0 {F:Set_} {w:Go.World} {g:Nat} (hg:w.heap.size≤g):¬ (fun x=>F x/\x < w.heap.size) g:=fun h=>by have:=h.2;omega
theorem notGr {P:Set_} {W:Go.World} {g:Nat} (h:¬ P g) (hg:g < W.heap.size):¬ gr P W g:=by
 rintro(h1 | h1)
 ·exact h h1
 ·omega
theorem Below.chain {w W W':Go.World} (h:Below w.heap.size w W) (k:Below W.heap.size W W'):Below w.heap.size w W':=h.trans (k.mono h.size)
theorem cacNew_any (c:Cfg) (hc:1≤c.sets/\c.sets≤64/\1≤c.ways/\c.ways≤16) (w:Go.World):Calls Tryz.prog 48 #[.int .i64 c.sets,.int .i64 c.ways] w fun e w'=>∃ b,e=.returned (.pointer (some ⟨b,0,none⟩))/\CacAt c Cache.new b (nw w) w'/\Below w.heap.size w w':=by
 have m1:=fun w:Go.World=>run_makeMap (P:=Tryz.prog) 175 w
 go_enter Tryz.func48,Tryz.ntmps48
 go_wp2_with fail
 refine(linNew_any c hc w).mono ?_
 rintro e w1 ⟨bl,rfl,hL,hb⟩
 have HL:=AS hL
 have HB:=AS hb
 have hlt:=hL.lt
 clear hL hb
 go_wp2
 go_ret
 have hb2:Below w1.heap.size w1 ((w1.alloc (.map #[] 0)).alloc (.cells #[.pointer (some ⟨bl,0,none⟩),.map (some w1.heap.size)] 177)):=below_alloc (below_alloc (Below.refl _ _) _) _
 have hs:=HB.out.size
 refine⟨_,rfl,(show CacB c Cache.new (w1.heap.size+1) bl w1.heap.size (nw w) _ from⟨fun x=>nw w x/\x < w1.heap.size,#[],0,_,?_,?_,IM.empty,fun k=>rfl,?_,?_,?_,by omega,?_,?_,fun x hx=>hx.1⟩).at_,Below.chain HB.out hb2⟩
 ·have:=blk_new (w1.alloc (.map #[] 0)) (.cells #[.pointer (some ⟨bl,0,none⟩),.map (some w1.heap.size)] 177);simpa using this
 ·exact map_alloc (heap_alloc w1 _).1 _
 ·exact HL.out.keep (KS.below (fun _=>False) hb2) (fun x hx h=>⟨⟨h,hx⟩,id⟩)
 ·intro h;have:=h.2;omega
 ·intro h;have:=h.2;omega
 ·show w.heap.size≤_;omega
 ·show w.heap.size≤_;omega
theorem cacGet_any {c:Cfg} {s:Cache} {b bl bt:Nat} {F:Set_} {w:Go.World} (hC:CacB c s b bl bt F w) (k:Int):Calls Tryz.prog 134 #[.pointer (some ⟨b,0,none⟩),.int .i64 k] w (RV (bunV (s.tok k)) w):=by
 have c1:=cw hC.blk 1 (v:=.map (some bt))
 have hl:=(hC.below (below_alloc (Below.refl _ _) (.cells #[.int .i64 0,.bool false,.bool false,.int .i64 0] 45))).look k
 generalize s.tok k=y at *
 obtain⟨y0,y1,y2,y3⟩:=y
 simp only[bunV] at hl
 clear hC
 go_enter Tryz.func134,Tryz.ntmps134
 go_wp2
 exact bodyPost_ret (v:=bunV ⟨y0,y1,y2,y3⟩) (by simp[results,Tryz.results134,go_sem,bunV,]) rfl ⟨rfl,by repeat (first | with_reducible exact Below.refl _ _ | with_reducible apply below_alloc | with_reducible refine Below.setCell ?_ (by dsimp only;omega) _)⟩
theorem cacLose_any {c:Cfg} {s:Cache} {b bl bt:Nat} {F:Set_} {w:Go.World} (hC0:CacB c s b bl bt F w) (k:Int):Calls Tryz.prog 153 #[.pointer (some ⟨b,0,none⟩),.int .i64 k] w (CacP (bunV (s.lose c k).2) c (s.lose c k).1 b bl bt F w):=by
 rw[lose_eq]
 have hC:=hC0.trim
 have hB0:=blk_alloc hC.blk (.cells #[.int .i64 0,.bool false,.bool false,.int .i64 0] 45)
 have c1:=cw hB0 1 (v:=.map (some bt))
 have hl:=(hC.below (below_alloc (Below.refl _ _) (.cells #[.int .i64 0,.bool false,.bool false,.int .i64 0] 45))).look k
 have hbl:=hC.lt
 generalize hy:s.tok k=y at *
 obtain⟨y0,y1,y2,y3⟩:=y
 simp only[bunV] at hl
 have CW:=AS (hC.below (below_alloc (below_alloc (Below.refl _ _) (.cells #[.int .i64 0,.bool false,.bool false,.int .i64 0] 45)) (.cells #[.int .i64 y0,.bool y1,.bool y2,.int .i64 y3] 45)))
 have XZ:=AS (blk_alloc (blk_new w (.cells #[.int .i64 0,.bool false,.bool false,.int .i64 0] 45)) (.cells #[.int .i64 y0,.bool y1,.bool y2,.int .i64 y3] 45))
 have XY:=AS (show((w.alloc (.cells #[.int .i64 0,.bool false,.bool false,.int .i64 0] 45)).alloc (.cells #[.int .i64 y0,.bool y1,.bool y2,.int .i64 y3] 45)).heap[w.heap.size+1]?=some (.cells #[.int .i64 y0,.bool y1,.bool y2,.int .i64 y3] 45) from by have:=blk_new (w.alloc (.cells #[.int .i64 0,.bool false,.bool false,.int .i64 0] 45)) (.cells #[.int .i64 y0,.bool y1,.bool y2,.int .i64 y3] 45);simpa using this)
 have CH:=AS (((Ch.refl F w).alloc (.cells #[.int .i64 0,.bool false,.bool false,.int .i64 0] 45)).alloc (.cells #[.int .i64 y0,.bool y1,.bool y2,.int .i64 y3] 45))
 clear hC hC0 hB0 hy
 go_enter Tryz.func153,Tryz.ntmps153
 go_upto_region 2 with fail
 clear hl c1
 generalize (w.alloc (.cells #[.int .i64 0,.bool false,.bool false,.int .i64 0] 45)).alloc (.cells #[.int .i64 y0,.bool y1,.bool y2,.int .i64 y3] 45)=W at CW XZ XY CH ⊢
 have c1:=cw CW.out.blk 1 (v:=.map (some bt))
 obtain⟨es,ck,hrun,hC1,hk1⟩:=CW.out.del k 3 0
 have C1:=AS hC1
 have XZ1:=AS (hk1.at_ XZ.out (notP0 (Nat.le_refl _)))
 have XY1:=AS (hk1.at_ XY.out (notP0 (by omega)))
 have CH1:=AS (CH.out.same hk1)
 clear hC1 hk1
 go_upto_region 3 with fail
 clear hrun c1 CW XZ XY CH
 generalize setBlock W bt (.map es ck)=W2 at C1 XZ1 XY1 CH1 ⊢
 have c0:=cw C1.out.blk 0 (v:=.pointer (some ⟨bl,0,none⟩))
 obtain⟨Fl,hL,hstep⟩:=C1.out.lin
 go_wp2_with fail
 refine(linRemove_any hL k).mono ?_
 rintro e w3 ⟨rfl,hL3,hk3⟩
 obtain⟨hC3,hk4⟩:=hstep _ _ hL3 hk3
 have C3:=AS hC3
 have XZ3:=AS (hk4.at_ XZ1.out (notP0 (Nat.le_refl _)))
 have XY3:=AS (hk4.at_ XY1.out (notP0 (by omega)))
 have CH3:=AS (CH1.out.op hk4)
 have N3:=AS (notGr (P:=fun x=>F x/\x < w.heap.size) (W:=W2) (notP0 (Nat.le_refl w.heap.size)) (blk_lt XZ1.out))
 clear hC3 hk4 hL3 hk3 hL hstep c0 XZ1 XY1 CH1 C1
 have z0:=cw XZ3.out 0 (v:=.int .i64 0)
 have z1:=cw XZ3.out 1 (v:=.bool false)
 have z2:=cw XZ3.out 2 (v:=.bool false)
 have z3:=cw XZ3.out 3 (v:=.int .i64 0)
 have zz0:=blk_frozen XZ3.out 0
 have zz1:=blk_frozen XZ3.out 1
 have zz2:=blk_frozen XZ3.out 2
 have zz3:=blk_frozen XZ3.out 3
 have y_0:=cw XY3.out 0 (v:=.int .i64 y0)
 have y_1:=cw XY3.out 1 (v:=.bool y1)
 have y_2:=cw XY3.out 2 (v:=.bool y2)
 have y_3:=cw XY3.out 3 (v:=.int .i64 y3)
 go_wp2
 refine bodyPost_ret (v:=bunV ⟨y0,y1,y2,y3⟩) (by simp[results,Tryz.results153,go_sem,bunV,z0,z1,z2,z3]) rfl (CacP.of rfl (C3.out.keep (F':=gr (fun x=>F x/\x < w.heap.size) W2) (((((KS.refl (fun x=>x=w.heap.size) _).set (g:=w.heap.size) (.inl rfl) 0 (.int .i64 y0)).set (g:=w.heap.size) (.inl rfl) 1 (.bool y1)).set (g:=w.heap.size) (.inl rfl) 2 (.bool y2)).set (g:=w.heap.size) (.inl rfl) 3 (.int .i64 y3)) (fun x hx h=>⟨h,fun e=>N3.out (e ▸ h)⟩)) ((((CH3.out.set (Nat.le_refl _) 0 (.int .i64 y0)).set (Nat.le_refl _) 1 (.bool y1)).set (Nat.le_refl _) 2 (.bool y2)).set (Nat.le_refl _) 3 (.int .i64 y3)))
theorem cacTake_any {c:Cfg} {s:Cache} {b bl bt:Nat} {F:Set_} {w:Go.World} (hC0:CacB c s b bl bt F w) (k n:Int) (o d:Bool):Calls Tryz.prog 135 #[.pointer (some ⟨b,0,none⟩),.int .i64 k,.int .i64 n,.bool o,.bool d] w (CacP (bunV (s.take c k n o d).2) c (s.take c k n o d).1 b bl bt F w):=by
 have hC:=hC0.trim
 have hB0:=blk_alloc hC.blk (.cells #[.int .i64 0,.bool false,.bool false,.int .i64 0] 45)
 have c1:=cw hB0 1 (v:=.map (some bt))
 have hl:=(hC.below (below_alloc (Below.refl _ _) (.cells #[.int .i64 0,.bool false,.bool false,.int .i64 0] 45))).look k
 have hbl:=hC.lt
 have htk:s.take c k n o d=if (split (s.tok k) n o d).2.count > 0 then ({ s with tok:=upd s.tok k (split (s.tok k) n o d).2 },(split (s.tok k) n o d).1) else ((s.lose c k).1,(split (s.tok k) n o d).1):=rfl
 generalize s.take c k n o d=tk at *
 generalize hy:s.tok k=y at *
 obtain⟨y0,y1,y2,y3⟩:=y
 generalize hsp:split ⟨y0,y1,y2,y3⟩ n o d=sp at *
 obtain⟨⟨s0,s1,s2,s3⟩,⟨r0,r1,r2,r3⟩⟩:=sp
 have HSP:=AS hsp
 have HTK:=AS htk
 simp only[bunV] at hl
 have CW:=AS (show ∀ W,Below w.heap.size w W->CacB c s b bl bt (fun x=>F x/\x < w.heap.size) W from fun W hb=>hC.below hb)
 have XZ:=AS (blk_new w (.cells #[.int .i64 0,.bool false,.bool false,.int .i64 0] 45))
 have BZ:=AS (below_alloc (Below.refl w.heap.size w) (.cells #[.int .i64 0,.bool false,.bool false,.int .i64 0] 45))
 clear hC hC0 hB0 hy hsp htk
 go_enter Tryz.func135,Tryz.ntmps135
 go_wp2_with fail
 refine(split_any _ _ _ _ _ _ _ _).mono ?_
 rintro e w1 ⟨rfl,hbe⟩
 rw[HSP.out]
 simp only[bunV]
 have B1:=AS (Below.chain BZ.out hbe)
 have XZ1:=AS (blk_below XZ.out hbe)
 have hs1:=hbe.size
 rw[World.size_alloc] at hs1
 clear hbe hl c1 XZ BZ
 go_upto_region 2 with fail
 have hb2:Below w1.heap.size w1 ((w1.alloc (.cells #[.int .i64 s0,.bool s1,.bool s2,.int .i64 s3] 45)).alloc (.cells #[.int .i64 r0,.bool r1,.bool r2,.int .i64 r3] 45)):=below_alloc (below_alloc (Below.refl _ _) _) _
 have B2:=AS (Below.chain B1.out hb2)
 have XZ2:=AS (blk_below XZ1.out hb2)
 have XS:=AS (blk_alloc (blk_new w1 (.cells #[.int .i64 s0,.bool s1,.bool s2,.int .i64 s3] 45)) (.cells #[.int .i64 r0,.bool r1,.bool r2,.int .i64 r3] 45))
 have XR:=AS (show((w1.alloc (.cells #[.int .i64 s0,.bool s1,.bool s2,.int .i64 s3] 45)).alloc (.cells #[.int .i64 r0,.bool r1,.bool r2,.int .i64 r3] 45)).heap[w1.heap.size+1]?=some (.cells #[.int .i64 r0,.bool r1,.bool r2,.int .i64 r3] 45) from by have:=blk_new (w1.alloc (.cells #[.int .i64 s0,.bool s1,.bool s2,.int .i64 s3] 45)) (.cells #[.int .i64 r0,.bool r1,.bool r2,.int .i64 r3] 45);simpa using this)
 clear hb2 B1 XZ1
 generalize (w1.alloc (.cells #[.int .i64 s0,.bool s1,.bool s2,.int .i64 s3] 45)).alloc (.cells #[.int .i64 r0,.bool r1,.bool r2,.int .i64 r3] 45)=W at B2 XZ2 XS XR ⊢
 have C2:=AS (CW.out W B2.out)
 have CH:=AS ((Ch.refl F w).below B2.out)
 clear CW
 have r_0:=cw XR.out 0 (v:=.int .i64 r0)
 have r_1:=cw XR.out 1 (v:=.bool r1)
 have r_2:=cw XR.out 2 (v:=.bool r2)
 have r_3:=cw XR.out 3 (v:=.int .i64 r3)
 by_cases hr:0 < r0
 ·have htk:=HTK.out
  rw[if_pos hr] at htk
  subst htk
  have c1:=cw C2.out.blk 1 (v:=.map (some bt))
  obtain⟨es,ck,hrun,hC3,hk3⟩:=(C2.out.below (Below.drew (Below.refl _ W))).put k ⟨r0,r1,r2,r3⟩
  have C3:=AS hC3
  have XZ3:=AS (hk3.at_ (blk_drew XZ2.out) (notP0 (Nat.le_refl _)))
  have XS3:=AS (hk3.at_ (blk_drew XS.out) (notP0 (by omega)))
  have CH3:=AS (CH.out.drew.same hk3)
  have N3:=AS (notP0 (F:=F) (Nat.le_refl w.heap.size))
  simp only[bunV] at hrun
  clear hC3 hk3
  go_upto_region 3 with fail
  go_cut [10] (fun v10 wx=>v10=.pointer (some ⟨w.heap.size,0,none⟩)/\wx=setBlock W.drew bt (.map es ck))
  case first =>
   go_region
   all_goals
    go_wp2_with fail
    go_meet
    exact⟨rfl,rfl⟩
  case rest =>
   obtain⟨rfl,hw⟩:=hcut
   rw[<- hw] at C3 XZ3 XS3 CH3
   clear hw hrun c1 CH C2 XZ2 XS XR
   have z0:=cw XZ3.out 0 (v:=.int .i64 0)
   have z1:=cw XZ3.out 1 (v:=.bool false)
   have z2:=cw XZ3.out 2 (v:=.bool false)
   have z3:=cw XZ3.out 3 (v:=.int .i64 0)
   have zz0:=blk_frozen XZ3.out 0
   have zz1:=blk_frozen XZ3.out 1
   have zz2:=blk_frozen XZ3.out 2
   have zz3:=blk_frozen XZ3.out 3
   have s_0:=cw XS3.out 0 (v:=.int .i64 s0)
   have s_1:=cw XS3.out 1 (v:=.bool s1)
   have s_2:=cw XS3.out 2 (v:=.bool s2)
   have s_3:=cw XS3.out 3 (v:=.int .i64 s3)
   have hne:w.heap.size≠w1.heap.size:=by omega
   go_wp2
   refine bodyPost_ret (v:=bunV ⟨s0,s1,s2,s3⟩) (by simp[results,Tryz.results135,go_sem,bunV,z0,z1,z2,z3,hne]) rfl (CacP.of rfl (C3.out.keep (F':=(fun x=>F x/\x < w.heap.size)) (((((KS.refl (fun x=>x=w.heap.size) _).set (g:=w.heap.size) (.inl rfl) 0 (.int .i64 s0)).set (g:=w.heap.size) (.inl rfl) 1 (.bool s1)).set (g:=w.heap.size) (.inl rfl) 2 (.bool s2)).set (g:=w.heap.size) (.inl rfl) 3 (.int .i64 s3)) (fun x hx h=>⟨h,fun e=>N3.out (e ▸ h)⟩)) (((((CH3.out).set (Nat.le_refl _) 0 (.int .i64 s0)).set (Nat.le_refl _) 1 (.bool s1)).set (Nat.le_refl _) 2 (.bool s2)).set (Nat.le_refl _) 3 (.int .i64 s3)))
 ·have htk:=HTK.out
  rw[if_neg hr] at htk
  subst htk
  have hr':¬ (0 < r0):=hr
  have HLO:=AS (cacLose_any C2.out k)
  generalize (s.lose c k)=lo at *
  obtain⟨lo1,lo2⟩:=lo
  obtain⟨l0,l1,l2,l3⟩:=lo2
  simp only[bunV] at HLO
  go_wp2_with fail
  refine HLO.out.mono ?_
  rintro e w3 ⟨rfl,hC3,hk3⟩
  have C3:=AS hC3
  have XZ3:=AS (hk3.at_ XZ2.out (notP0 (Nat.le_refl _)))
  have XS3:=AS (hk3.at_ XS.out (notP0 (by omega)))
  have CH3:=AS (CH.out.op hk3)
  have N3:=AS (notGr (P:=(fun x=>F x/\x < w.heap.size)) (W:=W) (notP0 (Nat.le_refl w.heap.size)) (blk_lt XZ2.out))
  clear hC3 hk3 XZ2 XS XR CH C2 B2 HLO
  have z0:=cw XZ3.out 0 (v:=.int .i64 0)
  have z1:=cw XZ3.out 1 (v:=.bool false)
  have z2:=cw XZ3.out 2 (v:=.bool false)
  have z3:=cw XZ3.out 3 (v:=.int .i64 0)
  have zz0:=blk_frozen XZ3.out 0
  have zz1:=blk_frozen XZ3.out 1
  have zz2:=blk_frozen XZ3.out 2
  have zz3:=blk_frozen XZ3.out 3
  have s_0:=cw XS3.out 0 (v:=.int .i64 s0)
  have s_1:=cw XS3.out 1 (v:=.bool s1)
  have s_2:=cw XS3.out 2 (v:=.bool s2)
  have s_3:=cw XS3.out 3 (v:=.int .i64 s3)
  have hne:w.heap.size≠w1.heap.size:=by omega
  go_wp2
  refine bodyPost_ret (v:=bunV ⟨s0,s1,s2,s3⟩) (by simp[results,Tryz.results135,go_sem,bunV,z0,z1,z2,z3,hne]) rfl (CacP.of rfl (C3.out.keep (F':=gr (fun x=>F x/\x < w.heap.size) W) (((((KS.refl (fun x=>x=w.heap.size) _).set (g:=w.heap.size) (.inl rfl) 0 (.int .i64 s0)).set (g:=w.heap.size) (.inl rfl) 1 (.bool s1)).set (g:=w.heap.size) (.inl rfl) 2 (.bool s2)).set (g:=w.heap.size) (.inl rfl) 3 (.int .i64 s3)) (fun x hx h=>⟨h,fun e=>N3.out (e ▸ h)⟩)) (((((CH3.out).set (Nat.le_refl _) 0 (.int .i64 s0)).set (Nat.le_refl _) 1 (.bool s1)).set (Nat.le_refl _) 2 (.bool s2)).set (Nat.le_refl _) 3 (.int .i64 s3)))
def lineV (l:S.Line):Value:=.agg #[.int .i64 l.block,.int .i64 l.bun.count,.bool l.bun.owner,.bool l.bun.has,.int .i64 l.bun.data]
def absV (r:Option S.Line):Value:=.tuple #[lineV (r.getD ⟨0,b0⟩),.bool r.isSome]
def tr (P:Set_) (w:Go.World):Set_:=fun x=>P x/\x < w.heap.size
def absK (c:Cfg) (s:Cache) (k:Int) (t:Bun) (p:Int):Cache×Option S.Line :=
 if (vicOf c s.rows k p).2=false then (s,some ⟨k,t⟩)
 else if (s.rows (imod (vicOf c s.rows k p).1 c.sets)).contains (vicOf c s.rows k p).1 then
  (⟨(rAdd c (rRemove c s.rows (vicOf c s.rows k p).1).1 k).1,upd (upd s.tok (vicOf c s.rows k p).1 b0) k t⟩,some ⟨(vicOf c s.rows k p).1,s.tok (vicOf c s.rows k p).1⟩)
 else (⟨(rAdd c s.rows k).1,upd s.tok k t⟩,none)
theorem absorb_eq (c:Cfg) (s:Cache) (k:Int) (t:Bun) (p:Int):s.absorb c k t p=if t.count < 1 then (s,none)
  else if (rUse c s.rows k).2 then (⟨(rUse c s.rows k).1,upd s.tok k (join (s.tok k) t)⟩,none) else absK c ⟨(rUse c s.rows k).1,s.tok⟩ k t p:=by
 unfold Cache.absorb absK
 rw[use_eq]
 by_cases h1:t.count < 1
 ·simp[h1]
 ·cases h2:(rUse c s.rows k).2 with
  | true=>simp[h1]
  | false =>
   simp only[h1,if_false,Bool.false_eq_true]
   rw[victim_eq]
   cases h3:(vicOf c (rUse c s.rows k).1 k p).2 with
   | false=>simp
   | true =>
    simp only[Bool.not_true,Bool.false_eq_true,if_false,if_true,reduceCtorEq,Cache.has,Cache.row,lose_eq,add_eq]
theorem cacAbsorb_any {c:Cfg} {s:Cache} {b bl bt:Nat} {F:Set_} {w:Go.World} (hC0:CacB c s b bl bt F w) (k:Int) (t0:Int) (t1 t2:Bool) (t3 p:Int):Calls Tryz.prog 131 #[.pointer (some ⟨b,0,none⟩),.int .i64 k,.agg #[.int .i64 t0,.bool t1,.bool t2,.int .i64 t3],.int .i64 p] w (CacP (absV (s.absorb c k ⟨t0,t1,t2,t3⟩ p).2) c (s.absorb c k ⟨t0,t1,t2,t3⟩ p).1 b bl bt F w):=by
 have hC:=hC0.trim
 have hab:=absorb_eq c s k ⟨t0,t1,t2,t3⟩ p
 generalize s.absorb c k ⟨t0,t1,t2,t3⟩ p=ab at *
 have HAB:=AS hab
 have hB2:Below w.heap.size w ((w.alloc (.cells #[.int .i64 t0,.bool t1,.bool t2,.int .i64 t3] 45)).alloc (.cells #[.int .i64 0,.int .i64 0,.bool false,.bool false,.int .i64 0] 61)):=below_alloc (below_alloc (Below.refl _ _) _) _
 have CW:=AS (hC.below hB2)
 have XB:=AS (blk_alloc (blk_new w (.cells #[.int .i64 t0,.bool t1,.bool t2,.int .i64 t3] 45)) (.cells #[.int .i64 0,.int .i64 0,.bool false,.bool false,.int .i64 0] 61))
 have XL:=AS (show((w.alloc (.cells #[.int .i64 t0,.bool t1,.bool t2,.int .i64 t3] 45)).alloc (.cells #[.int .i64 0,.int .i64 0,.bool false,.bool false,.int .i64 0] 61)).heap[w.heap.size+1]?=some (.cells #[.int .i64 0,.int .i64 0,.bool false,.bool false,.int .i64 0] 61) from by have:=blk_new (w.alloc (.cells #[.int .i64 t0,.bool t1,.bool t2,.int .i64 t3] 45)) (.cells #[.int .i64 0,.int .i64 0,.bool false,.bool false,.int .i64 0] 61);simpa using this)
 have CH:=AS ((Ch.refl F w).below hB2)
 have hbl:=hC.lt
 clear hC hC0 hB2 hab
 go_enter Tryz.func131,Tryz.ntmps131
 go_upto_region 1 with fail
 generalize (w.alloc (.cells #[.int .i64 t0,.bool t1,.bool t2,.int .i64 t3] 45)).alloc (.cells #[.int .i64 0,.int .i64 0,.bool false,.bool false,.int .i64 0] 61)=W at CW XB XL CH ⊢
 have t_0:=cw XB.out 0 (v:=.int .i64 t0)
 have t_1:=cw XB.out 1 (v:=.bool t1)
 have t_2:=cw XB.out 2 (v:=.bool t2)
 have t_3:=cw XB.out 3 (v:=.int .i64 t3)
 have l_0:=cw XL.out 0 (v:=.int .i64 0)
 have l_1:=cw XL.out 1 (v:=.int .i64 0)
 have l_2:=cw XL.out 2 (v:=.bool false)
 have l_3:=cw XL.out 3 (v:=.bool false)
 have l_4:=cw XL.out 4 (v:=.int .i64 0)
 have lz0:=blk_frozen XL.out 0
 have lz1:=blk_frozen XL.out 1
 have lz2:=blk_frozen XL.out 2
 have lz3:=blk_frozen XL.out 3
 have lz4:=blk_frozen XL.out 4
 by_cases q1:t0 < 1
 ·have hab:=HAB.out
  rw[if_pos q1] at hab
  subst hab
  have N0:=AS (notP0 (F:=F) (w:=w) (g:=w.heap.size+1) (by omega))
  go_wp2
  refine bodyPost_ret (v:=absV none) (by simp[results,Tryz.results131,go_sem,absV,lineV,b0,l_0,l_1,l_2,l_3,l_4]) rfl (CacP.of rfl (CW.out.keep (F':=(fun x=>F x/\x < w.heap.size)) ((((((KS.refl (fun x=>x=w.heap.size+1) _).set (g:=w.heap.size+1) (.inl rfl) 0 (.int .i64 0)).set (g:=w.heap.size+1) (.inl rfl) 1 (.int .i64 0)).set (g:=w.heap.size+1) (.inl rfl) 2 (.bool false)).set (g:=w.heap.size+1) (.inl rfl) 3 (.bool false)).set (g:=w.heap.size+1) (.inl rfl) 4 (.int .i64 0)) (fun x hx h=>⟨h,fun e=>N0.out (e ▸ h)⟩)) ((((((CH.out).set (g:=w.heap.size+1) (Nat.le_succ _) 0 (.int .i64 0)).set (g:=w.heap.size+1) (Nat.le_succ _) 1 (.int .i64 0)).set (g:=w.heap.size+1) (Nat.le_succ _) 2 (.bool false)).set (g:=w.heap.size+1) (Nat.le_succ _) 3 (.bool false)).set (g:=w.heap.size+1) (Nat.le_succ _) 4 (.int .i64 0)))
 ·have hab:=HAB.out
  rw[if_neg q1] at hab
  have HAB2:=AS hab
  clear hab HAB
  have c0:=cw CW.out.blk 0 (v:=.pointer (some ⟨bl,0,none⟩))
  obtain⟨Fl,hL,hstep⟩:=CW.out.lin
  go_upto_region 3 with fail
  go_wp2_with fail
  refine(linUse_any hL k).mono ?_
  rintro e w1 ⟨rfl,hL3,hk3⟩
  obtain⟨hC3,hk4⟩:=hstep _ _ hL3 hk3
  have C3:=AS hC3
  have XB3:=AS (hk4.at_ XB.out (notP0 (Nat.le_refl _)))
  have XL3:=AS (hk4.at_ XL.out (notP0 (by omega)))
  have CH3:=AS (CH.out.op hk4)
  have N3:=AS (notGr (P:=(fun x=>F x/\x < w.heap.size)) (W:=W) (notP0 (by omega:w.heap.size≤w.heap.size+1)) (blk_lt XL.out))
  have NB3:=AS (notGr (P:=(fun x=>F x/\x < w.heap.size)) (W:=W) (notP0 (Nat.le_refl w.heap.size)) (blk_lt XB.out))
  have hab:=HAB2.out
  generalize hru:rUse c s.rows k=ru at *
  obtain⟨rows1,ok1⟩:=ru
  clear hC3 hk4 hL3 hk3 hL hstep HAB2 hru c0 t_0 t_1 t_2 t_3 l_0 lz0 l_1 lz1 l_2 lz2 l_3 lz3 l_4 lz4
  generalize hP1:gr (fun x=>F x/\x < w.heap.size) W=P1 at C3 CH3 N3 NB3
  clear XB XL CH CW hP1
  have C3:Aside0 (CacB c ⟨rows1,s.tok⟩ b bl bt P1 w1):=C3
  cases ok1
  ·simp only[Bool.false_eq_true,if_false] at hab
   have hk0:absK c ⟨rows1,s.tok⟩ k ⟨t0,t1,t2,t3⟩ p=if (vicOf c rows1 k p).2=false then (⟨rows1,s.tok⟩,some ⟨k,⟨t0,t1,t2,t3⟩⟩)
     else if (rows1 (imod (vicOf c rows1 k p).1 c.sets)).contains (vicOf c rows1 k p).1 then
      (⟨(rAdd c (rRemove c rows1 (vicOf c rows1 k p).1).1 k).1,upd (upd s.tok (vicOf c rows1 k p).1 b0) k ⟨t0,t1,t2,t3⟩⟩,some ⟨(vicOf c rows1 k p).1,s.tok (vicOf c rows1 k p).1⟩)
     else (⟨(rAdd c rows1 k).1,upd s.tok k ⟨t0,t1,t2,t3⟩⟩,none):=rfl
   rw[hk0] at hab
   clear hk0
   have c0:=cw C3.out.blk 0 (v:=.pointer (some ⟨bl,0,none⟩))
   obtain⟨Fl1,hL1,-⟩:=C3.out.lin
   have HV:=AS (linVictim_any hL1 k p)
   generalize vicOf c rows1 k p=vi at *
   obtain⟨v1,v2⟩:=vi
   have HAB3:=AS hab
   clear hab hL1
   go_wp2_with fail
   refine HV.out.mono ?_
   rintro e w2 ⟨rfl,m,rfl⟩
   clear HV c0
   cases v2
   ·have hab:=HAB3.out
    simp only[if_true] at hab
    subst hab
    have t_0:=cw XB3.out 0 (v:=.int .i64 t0)
    have t_1:=cw XB3.out 1 (v:=.bool t1)
    have t_2:=cw XB3.out 2 (v:=.bool t2)
    have t_3:=cw XB3.out 3 (v:=.int .i64 t3)
    have l_0:=cw XL3.out 0 (v:=.int .i64 0)
    have l_1:=cw XL3.out 1 (v:=.int .i64 0)
    have l_2:=cw XL3.out 2 (v:=.bool false)
    have l_3:=cw XL3.out 3 (v:=.bool false)
    have l_4:=cw XL3.out 4 (v:=.int .i64 0)
    have lz0:=blk_frozen XL3.out 0
    have lz1:=blk_frozen XL3.out 1
    have lz2:=blk_frozen XL3.out 2
    have lz3:=blk_frozen XL3.out 3
    have lz4:=blk_frozen XL3.out 4
    have CD:=AS (C3.out.below (bdN w1 m))
    have CHD:=AS (CH3.out.below (bdN w1 m))
    go_wp2
    refine bodyPost_ret (v:=absV (some ⟨k,⟨t0,t1,t2,t3⟩⟩)) (by simp[results,Tryz.results131,go_sem,absV,lineV,b0,l_0,l_1,l_2,l_3,l_4]) rfl (CacP.of rfl (CD.out.keep (F':=P1) ((((((KS.refl (fun x=>x=w.heap.size+1) _).set (g:=w.heap.size+1) (.inl rfl) 0 (.int .i64 k)).set (g:=w.heap.size+1) (.inl rfl) 1 (.int .i64 t0)).set (g:=w.heap.size+1) (.inl rfl) 2 (.bool t1)).set (g:=w.heap.size+1) (.inl rfl) 3 (.bool t2)).set (g:=w.heap.size+1) (.inl rfl) 4 (.int .i64 t3)) (fun x hx h=>⟨h,fun e=>N3.out (e ▸ h)⟩)) ((((((CHD.out).set (g:=w.heap.size+1) (Nat.le_succ _) 0 (.int .i64 k)).set (g:=w.heap.size+1) (Nat.le_succ _) 1 (.int .i64 t0)).set (g:=w.heap.size+1) (Nat.le_succ _) 2 (.bool t1)).set (g:=w.heap.size+1) (Nat.le_succ _) 3 (.bool t2)).set (g:=w.heap.size+1) (Nat.le_succ _) 4 (.int .i64 t3)))
   ·have hab:=HAB3.out
    simp only[reduceCtorEq,if_false] at hab
    have HAB4:=AS hab
    clear hab HAB3
    have hB2:Below w1.heap.size w1 ((w1.drewN m).alloc (.cells #[.int .i64 0,.int .i64 0,.bool false,.bool false,.int .i64 0] 61)):=below_alloc (bdN w1 m) _
    have C4:Aside0 (CacB c ⟨rows1,s.tok⟩ b bl bt (tr P1 w1) ((w1.drewN m).alloc (.cells #[.int .i64 0,.int .i64 0,.bool false,.bool false,.int .i64 0] 61))):=⟨C3.out.trim.below hB2⟩
    have XB4:=AS (blk_below XB3.out hB2)
    have XL4:=AS (blk_below XL3.out hB2)
    have XO4:=AS (show((w1.drewN m).alloc (.cells #[.int .i64 0,.int .i64 0,.bool false,.bool false,.int .i64 0] 61)).heap[w1.heap.size]?=some (.cells #[.int .i64 0,.int .i64 0,.bool false,.bool false,.int .i64 0] 61) from blk_new (w1.drewN m) (.cells #[.int .i64 0,.int .i64 0,.bool false,.bool false,.int .i64 0] 61))
    have CH4:Aside0 (Ch F w (tr P1 w1) ((w1.drewN m).alloc (.cells #[.int .i64 0,.int .i64 0,.bool false,.bool false,.int .i64 0] 61))):=⟨CH3.out.trim.below hB2⟩
    have hs14:w.heap.size+1 < w1.heap.size:=blk_lt XL3.out
    have N4:=AS (show ¬ tr P1 w1 (w.heap.size+1) from fun h=>N3.out h.1)
    have NB4:=AS (show ¬ tr P1 w1 w.heap.size from fun h=>NB3.out h.1)
    have NO4:=AS (show ¬ tr P1 w1 w1.heap.size from fun h=>by have:=h.2;omega)
    go_upto_region 10 with fail
    clear hB2
    generalize tr P1 w1=P2 at C4 CH4 N4 NB4 NO4
    generalize (w1.drewN m).alloc (.cells #[.int .i64 0,.int .i64 0,.bool false,.bool false,.int .i64 0] 61)=W4 at C4 XB4 XL4 XO4 CH4 ⊢
    clear XB3 XL3 CH3 N3 NB3 C3
    have c0:=cw C4.out.blk 0 (v:=.pointer (some ⟨bl,0,none⟩))
    obtain⟨Fl2,hL2,-⟩:=C4.out.lin
    have HH:=AS (linHas_any hL2 v1)
    simp only at HH
    generalize (rows1 (imod v1 c.sets)).contains v1=hb at *
    clear hL2
    go_wp2_with fail
    refine HH.out.mono ?_
    rintro e w5 ⟨rfl,m5,rfl⟩
    clear HH c0
    go_upto_if 59 with fail
    have C5:=AS (C4.out.below (bdN W4 m5))
    have CH5:=AS (CH4.out.below (bdN W4 m5))
    have XB5:=AS (blk_below XB4.out (bdN W4 m5))
    have XL5:=AS (blk_below XL4.out (bdN W4 m5))
    have XO5:=AS (blk_below XO4.out (bdN W4 m5))
    generalize W4.drewN m5=W5 at C5 CH5 XB5 XL5 XO5 ⊢
    clear C4 CH4 XB4 XL4 XO4
    have hso:=blk_lt XO5.out
    go_cut [13] (fun v13 wx=>v13=.bool hb/\∃ (P3:Set_) (s3:Cache) (o0 o1:Int) (o2 o3:Bool) (o4:Int),ab=(⟨(rAdd c s3.rows k).1,upd s3.tok k ⟨t0,t1,t2,t3⟩⟩,if hb then some ⟨o0,⟨o1,o2,o3,o4⟩⟩ else none)/\(hb=false->o0=0/\o1=0/\o2=false/\o3=false/\o4=0)/\CacB c s3 b bl bt P3 wx/\Ch F w P3 wx/\¬ P3 (w.heap.size+1)/\¬ P3 w.heap.size/\¬ P3 w1.heap.size/\wx.heap[w.heap.size]?=some (.cells #[.int .i64 t0,.bool t1,.bool t2,.int .i64 t3] 45)/\wx.heap[w.heap.size+1]?=some (.cells #[.int .i64 0,.int .i64 0,.bool false,.bool false,.int .i64 0] 61)/\wx.heap[w1.heap.size]?=some (.cells #[.int .i64 o0,.int .i64 o1,.bool o2,.bool o3,.int .i64 o4] 61))
    case first =>
     cases hb
     ·go_wp2_with fail
      go_meet
      exact⟨rfl,P2,⟨rows1,s.tok⟩,0,0,false,false,0,by have:=HAB4.out;simpa using this,fun _=>⟨rfl,rfl,rfl,rfl,rfl⟩,C5.out,CH5.out,N4.out,NB4.out,NO4.out,XB5.out,XL5.out,XO5.out⟩
     ·have HLO:=AS (cacLose_any C5.out v1)
      simp only[lose_eq] at HLO
      generalize hyy:s.tok v1=yy at *
      obtain⟨z0,z1,z2,z3⟩:=yy
      simp only[bunV] at HLO
      go_wp2_with fail
      refine HLO.out.mono ?_
      rintro e w6 ⟨rfl,hC6,hk6⟩
      have C6:=AS hC6
      have CH6:=AS (CH5.out.op hk6)
      have XB6:=AS (hk6.at_ XB5.out NB4.out)
      have XL6:=AS (hk6.at_ XL5.out N4.out)
      have XO6:=AS (hk6.at_ XO5.out NO4.out)
      have N6:=AS (notGr (W:=W5) N4.out (blk_lt XL5.out))
      have NB6:=AS (notGr (W:=W5) NB4.out (blk_lt XB5.out))
      have NO6:=AS (notGr (W:=W5) NO4.out hso)
      clear hC6 hk6 HLO
      have o_0:=cw XO6.out 0 (v:=.int .i64 0)
      have o_1:=cw XO6.out 1 (v:=.int .i64 0)
      have o_2:=cw XO6.out 2 (v:=.bool false)
      have o_3:=cw XO6.out 3 (v:=.bool false)
      have o_4:=cw XO6.out 4 (v:=.int .i64 0)
      have oz0:=blk_frozen XO6.out 0
      have oz1:=blk_frozen XO6.out 1
      have oz2:=blk_frozen XO6.out 2
      have oz3:=blk_frozen XO6.out 3
      have oz4:=blk_frozen XO6.out 4
      go_wp2_with fail
      go_meet
      have hk7:=(((((KS.refl (fun x=>x=w1.heap.size) w6).set (g:=w1.heap.size) (.inl rfl) 0 (.int .i64 v1)).set (g:=w1.heap.size) (.inl rfl) 1 (.int .i64 z0)).set (g:=w1.heap.size) (.inl rfl) 2 (.bool z1)).set (g:=w1.heap.size) (.inl rfl) 3 (.bool z2)).set (g:=w1.heap.size) (.inl rfl) 4 (.int .i64 z3)
      have hle:w.heap.size≤w1.heap.size:=by omega
      refine⟨rfl,gr P2 W5,⟨(rRemove c rows1 v1).1,upd s.tok v1 b0⟩,v1,z0,z1,z2,z3,by have:=HAB4.out;simpa using this,fun h=>by simp at h,?_,?_,N6.out,NB6.out,NO6.out,?_,?_,?_⟩
      ·exact C6.out.keep hk7 (fun x hx h=>⟨h,fun e=>NO6.out (e ▸ h)⟩)
      ·exact((((CH6.out.set hle 0 (.int .i64 v1)).set hle 1 (.int .i64 z0)).set hle 2 (.bool z1)).set hle 3 (.bool z2)).set hle 4 (.int .i64 z3)
      ·exact hk7.at_ XB6.out (by show ¬ _=_;omega)
      ·exact hk7.at_ XL6.out (by show ¬ _=_;omega)
      ·exact(blk_set (blk_set (blk_set (blk_set (blk_set XO6.out 0 _) 1 _) 2 _) 3 _) 4 _).trans (by simp)
    case rest =>
     obtain⟨rfl,P3,s3,o0,o1,o2,o3,o4,hab,hz,hC6,hCH6,hn1,hn2,hn3,hx1,hx2,hx3⟩:=hcut
     have C6:=AS hC6
     have CH6:=AS hCH6
     have N6:=AS (And.intro hn1 (And.intro hn2 hn3))
     have X6:=AS (And.intro hx1 (And.intro hx2 hx3))
     have HABZ:=AS (And.intro hab hz)
     clear hab hz hC6 hCH6 hn1 hn2 hn3 hx1 hx2 hx3 C5 CH5 XB5 XL5 XO5 HAB4 N4 NB4 NO4
     have c0:=cw C6.out.blk 0 (v:=.pointer (some ⟨bl,0,none⟩))
     obtain⟨Fl3,hL3,hstep3⟩:=C6.out.lin
     have HA:=AS (linAdd_any hL3 k)
     have ST:=AS hstep3
     clear hL3 hstep3
     go_wp2_with fail
     refine HA.out.mono ?_
     rintro e w7 ⟨rfl,hL7,hk7⟩
     obtain⟨hC7,hk8⟩:=ST.out _ _ hL7 hk7
     have C7:=AS hC7
     have CH7:=AS (CH6.out.op hk8)
     have XB7:=AS (hk8.at_ X6.out.1 N6.out.2.1)
     have XL7:=AS (hk8.at_ X6.out.2.1 N6.out.1)
     have XO7:=AS (hk8.at_ X6.out.2.2 N6.out.2.2)
     have N7:=AS (notGr (W:=wc) N6.out.1 (blk_lt X6.out.2.1))
     have NB7:=AS (notGr (W:=wc) N6.out.2.1 (blk_lt X6.out.1))
     have NO7:=AS (notGr (W:=wc) N6.out.2.2 (blk_lt X6.out.2.2))
     clear hL7 hk7 hC7 hk8 HA ST c0
     generalize gr P3 wc=P4 at C7 CH7 N7 NB7 NO7
     have c1:=cw C7.out.blk 1 (v:=.map (some bt))
     have t_0:=cw XB7.out 0 (v:=.int .i64 t0)
     have t_1:=cw XB7.out 1 (v:=.bool t1)
     have t_2:=cw XB7.out 2 (v:=.bool t2)
     have t_3:=cw XB7.out 3 (v:=.int .i64 t3)
     obtain⟨es,ck,hrun,hC8,hk8⟩:=(C7.out.below (Below.drew (Below.refl _ w7))).put k ⟨t0,t1,t2,t3⟩
     have C8:=AS hC8
     have CH8:=AS (CH7.out.drew.same hk8)
     have XL8:=AS (hk8.at_ (blk_drew XL7.out) N7.out)
     have XO8:=AS (hk8.at_ (blk_drew XO7.out) NO7.out)
     simp only[bunV] at hrun
     clear hC8 hk8
     go_upto_region 14 with fail
     go_cut [13] (fun v13 wx=>v13=.bool hb/\wx=setBlock w7.drew bt (.map es ck))
     case first =>
      go_region
      all_goals
       go_wp2_with fail
       go_meet
       exact⟨rfl,rfl⟩
     case rest =>
      obtain⟨rfl,hw⟩:=hcut
      rw[<- hw] at C8 CH8 XL8 XO8
      clear hw hrun c1 t_0 t_1 t_2 t_3
      have l_0:=cw XL8.out 0 (v:=.int .i64 0)
      have l_1:=cw XL8.out 1 (v:=.int .i64 0)
      have l_2:=cw XL8.out 2 (v:=.bool false)
      have l_3:=cw XL8.out 3 (v:=.bool false)
      have l_4:=cw XL8.out 4 (v:=.int .i64 0)
      have lz0:=blk_frozen XL8.out 0
      have lz1:=blk_frozen XL8.out 1
      have lz2:=blk_frozen XL8.out 2
      have lz3:=blk_frozen XL8.out 3
      have lz4:=blk_frozen XL8.out 4
      have o_0:=cw XO8.out 0 (v:=.int .i64 o0)
      have o_1:=cw XO8.out 1 (v:=.int .i64 o1)
      have o_2:=cw XO8.out 2 (v:=.bool o2)
      have o_3:=cw XO8.out 3 (v:=.bool o3)
      have o_4:=cw XO8.out 4 (v:=.int .i64 o4)
      have hne:w.heap.size+1≠w1.heap.size:=by omega
      have hab:=HABZ.out.1
      have HZ:=AS HABZ.out.2
      subst hab
      have C8':Aside0 (CacB c ⟨(rAdd c s3.rows k).1,upd s3.tok k ⟨t0,t1,t2,t3⟩⟩ b bl bt P4 wc):=⟨C8.out⟩
      cases hb
      ·obtain⟨rfl,rfl,rfl,rfl,rfl⟩:=HZ.out rfl
       go_wp2
       refine bodyPost_ret (v:=absV none) (by simp[results,Tryz.results131,go_sem,absV,lineV,b0,l_0,l_1,l_2,l_3,l_4,hne]) rfl (CacP.of rfl (C8'.out.keep (F':=P4) ((((((KS.refl (fun x=>x=w.heap.size+1) _).set (g:=w.heap.size+1) (.inl rfl) 0 (.int .i64 0)).set (g:=w.heap.size+1) (.inl rfl) 1 (.int .i64 0)).set (g:=w.heap.size+1) (.inl rfl) 2 (.bool false)).set (g:=w.heap.size+1) (.inl rfl) 3 (.bool false)).set (g:=w.heap.size+1) (.inl rfl) 4 (.int .i64 0)) (fun x hx h=>⟨h,fun e=>N7.out (e ▸ h)⟩)) ((((((CH8.out).set (g:=w.heap.size+1) (Nat.le_succ _) 0 (.int .i64 0)).set (g:=w.heap.size+1) (Nat.le_succ _) 1 (.int .i64 0)).set (g:=w.heap.size+1) (Nat.le_succ _) 2 (.bool false)).set (g:=w.heap.size+1) (Nat.le_succ _) 3 (.bool false)).set (g:=w.heap.size+1) (Nat.le_succ _) 4 (.int .i64 0)))
      ·go_wp2
       refine bodyPost_ret (v:=absV (some ⟨o0,⟨o1,o2,o3,o4⟩⟩)) (by simp[results,Tryz.results131,go_sem,absV,lineV,b0,l_0,l_1,l_2,l_3,l_4,hne]) rfl (CacP.of rfl (C8'.out.keep (F':=P4) ((((((KS.refl (fun x=>x=w.heap.size+1) _).set (g:=w.heap.size+1) (.inl rfl) 0 (.int .i64 o0)).set (g:=w.heap.size+1) (.inl rfl) 1 (.int .i64 o1)).set (g:=w.heap.size+1) (.inl rfl) 2 (.bool o2)).set (g:=w.heap.size+1) (.inl rfl) 3 (.bool o3)).set (g:=w.heap.size+1) (.inl rfl) 4 (.int .i64 o4)) (fun x hx h=>⟨h,fun e=>N7.out (e ▸ h)⟩)) ((((((CH8.out).set (g:=w.heap.size+1) (Nat.le_succ _) 0 (.int .i64 o0)).set (g:=w.heap.size+1) (Nat.le_succ _) 1 (.int .i64 o1)).set (g:=w.heap.size+1) (Nat.le_succ _) 2 (.bool o2)).set (g:=w.heap.size+1) (Nat.le_succ _) 3 (.bool o3)).set (g:=w.heap.size+1) (Nat.le_succ _) 4 (.int .i64 o4)))
  ·simp only[if_true] at hab
   subst hab
   generalize hy:s.tok k=y at *
   obtain⟨y0,y1,y2,y3⟩:=y
   have HY:=AS hy
   generalize hjn:join ⟨y0,y1,y2,y3⟩ ⟨t0,t1,t2,t3⟩=jn
   obtain⟨j0,j1,j2,j3⟩:=jn
   have HJ:=AS hjn
   clear hy hjn
   go_upto_region 4 with fail
   go_cut [9] (fun v9 wx=>v9=.bool false/\CacB c ⟨rows1,upd s.tok k ⟨j0,j1,j2,j3⟩⟩ b bl bt P1 wx/\Ch F w P1 wx/\wx.heap[w.heap.size+1]?=some (.cells #[.int .i64 0,.int .i64 0,.bool false,.bool false,.int .i64 0] 61))
   case first =>
    have KEEP:=AS (show ∀ x,Below w1.heap.size w1 x->(fun x=>x.cell? ⟨w.heap.size,0,none⟩=some (.int .i64 t0)/\x.cell? ⟨w.heap.size,1,none⟩=some (.bool t1)/\x.cell? ⟨w.heap.size,2,none⟩=some (.bool t2)/\x.cell? ⟨w.heap.size,3,none⟩=some (.int .i64 t3)/\x.cell? ⟨b,1,none⟩=some (.map (some bt))) x from fun x hb=>⟨cw (blk_below XB3.out hb) 0,cw (blk_below XB3.out hb) 1,cw (blk_below XB3.out hb) 2,cw (blk_below XB3.out hb) 3,cw (C3.out.below hb).blk 1⟩)
    have hlk:=(C3.out.below (Below.drew (Below.refl _ w1))).look k
    rw[show(⟨rows1,s.tok⟩:Cache).tok k=s.tok k from rfl,HY.out] at hlk
    simp only[bunV] at hlk
    go_region_held3 (fun x=>x.cell? ⟨w.heap.size,0,none⟩=some (.int .i64 t0)/\x.cell? ⟨w.heap.size,1,none⟩=some (.bool t1)/\x.cell? ⟨w.heap.size,2,none⟩=some (.bool t2)/\x.cell? ⟨w.heap.size,3,none⟩=some (.int .i64 t3)/\x.cell? ⟨b,1,none⟩=some (.map (some bt))) (first | exact E4.out | exact KEEP.out _ (by (repeat (first | with_reducible exact Below.refl _ _ | with_reducible exact B1.out | with_reducible apply below_alloc | with_reducible apply Below.drew | refine Below.setCell ?_ (by dsimp only;omega) _)))) ((first | (go_at_call 146;refine(join_any _ _ _ _ _ _ _ _ w1.drew).mono ?_;rintro e w2 ⟨rfl,hbe⟩;rw[HJ.out];simp only[bunV];have B1:=AS (show Below w1.heap.size w1 w2 from(Below.drew (Below.refl _ _)).trans (hbe.mono (Nat.le_refl _)));clear hbe;obtain⟨es,ck,hrun,hC4,hk4⟩:=(C3.out.below B1.out).put k ⟨j0,j1,j2,j3⟩;simp only[bunV] at hrun;have P4:=AS (And.intro hC4 hk4);have XB9:=AS (hk4.at_ (blk_below XB3.out B1.out) NB3.out);have E4:=AS (show(fun x=>x.cell? ⟨w.heap.size,0,none⟩=some (.int .i64 t0)/\x.cell? ⟨w.heap.size,1,none⟩=some (.bool t1)/\x.cell? ⟨w.heap.size,2,none⟩=some (.bool t2)/\x.cell? ⟨w.heap.size,3,none⟩=some (.int .i64 t3)/\x.cell? ⟨b,1,none⟩=some (.map (some bt))) (setBlock w2 bt (.map es ck)) from⟨cw XB9.out 0,cw XB9.out 1,cw XB9.out 2,cw XB9.out 3,cw hC4.blk 1⟩);clear hC4 hk4)))
    all_goals
     go_wp2_with fail
     go_meet
     exact⟨rfl,P4.out.1,(CH3.out.below B1.out).same P4.out.2,P4.out.2.at_ (blk_below XL3.out B1.out) N3.out⟩
   case rest =>
    obtain⟨rfl,hC5,hCH5,hx5⟩:=hcut
    have C5:Aside0 (CacB c ⟨rows1,upd s.tok k (join ⟨y0,y1,y2,y3⟩ ⟨t0,t1,t2,t3⟩)⟩ b bl bt P1 wc):=⟨by rw[HJ.out];exact hC5⟩
    have CH5:=AS hCH5
    have XL5:=AS hx5
    clear hC5 hCH5 hx5
    have l_0:=cw XL5.out 0 (v:=.int .i64 0)
    have l_1:=cw XL5.out 1 (v:=.int .i64 0)
    have l_2:=cw XL5.out 2 (v:=.bool false)
    have l_3:=cw XL5.out 3 (v:=.bool false)
    have l_4:=cw XL5.out 4 (v:=.int .i64 0)
    have lz0:=blk_frozen XL5.out 0
    have lz1:=blk_frozen XL5.out 1
    have lz2:=blk_frozen XL5.out 2
    have lz3:=blk_frozen XL5.out 3
    have lz4:=blk_frozen XL5.out 4
    go_wp2
    refine bodyPost_ret (v:=absV none) (by simp[results,Tryz.results131,go_sem,absV,lineV,b0,l_0,l_1,l_2,l_3,l_4]) rfl (CacP.of rfl (C5.out.keep (F':=P1) ((((((KS.refl (fun x=>x=w.heap.size+1) _).set (g:=w.heap.size+1) (.inl rfl) 0 (.int .i64 0)).set (g:=w.heap.size+1) (.inl rfl) 1 (.int .i64 0)).set (g:=w.heap.size+1) (.inl rfl) 2 (.bool false)).set (g:=w.heap.size+1) (.inl rfl) 3 (.bool false)).set (g:=w.heap.size+1) (.inl rfl) 4 (.int .i64 0)) (fun x hx h=>⟨h,fun e=>N3.out (e ▸ h)⟩)) ((((((CH5.out).set (g:=w.heap.size+1) (Nat.le_succ _) 0 (.int .i64 0)).set (g:=w.heap.size+1) (Nat.le_succ _) 1 (.int .i64 0)).set (g:=w.heap.size+1) (Nat.le_succ _) 2 (.bool false)).set (g:=w.heap.size+1) (Nat.le_succ _) 3 (.bool false)).set (g:=w.heap.size+1) (Nat.le_succ _) 4 (.int .i64 0)))
end Go.Proofs.YtiebppkhaiofeaaGreat.K
