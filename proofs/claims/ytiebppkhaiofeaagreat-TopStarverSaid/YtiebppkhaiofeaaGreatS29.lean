/- Part of the proof of TopStarver: what functions of the program do. -/
import Derived.Test.YtiebppkhaiofeaaGreatS10
set_option maxHeartbeats 4000000
set_option maxRecDepth 100000
set_option linter.unusedVariables false
set_option linter.unusedSimpArgs false
namespace Go.Proofs.YtiebppkhaiofeaaGreat.K
open Go.RowKit Go.Proofs.YtiebppkhaiofeaaGreatW.PrintWords Go.Proofs.YtiebppkhaiofeaaGreat.S
attribute [local go_sem] nil39 World.cell?_alloc_some
theorem netTake_yes {rm:Int} {xs:List Let} {b i:Nat} {F:Set_} {w:Go.World} (hN:NetAt rm xs b F w) (hi:i < xs.length) :
  Calls Tryz.prog 57 #[.pointer (some ⟨b,0,none⟩),.int .i64 i] w (NetP (.tuple #[letV (xs.getD i let0),.bool true]) rm (xs.eraseIdx i) b F w):=by
 have hbl:=hN.lt
 obtain⟨v,hB,hO,hv,hb,hf,h1,h2,h3⟩:=hN
 obtain⟨g',cap,rfl,hc63,hcap,hlt',hcell⟩:=own_some hO hi
 generalize hl:xs.getD i letE.d=l at *
 have hl':xs.getD i let0=l:=hl
 clear hl
 obtain⟨k,f,t,bb,q,wh,wr,⟨c,o,h,d⟩⟩:=l
 have e0:w.cell? ⟨g',i * 11,none⟩=some (.int .i64 k):=hcell 0 (by decide)
 have e1:w.cell? ⟨g',i * 11+1,none⟩=some (.int .i64 f):=hcell 1 (by decide)
 have e2:w.cell? ⟨g',i * 11+2,none⟩=some (.int .i64 t):=hcell 2 (by decide)
 have e3:w.cell? ⟨g',i * 11+3,none⟩=some (.int .i64 bb):=hcell 3 (by decide)
 have e4:w.cell? ⟨g',i * 11+4,none⟩=some (.int .i64 q):=hcell 4 (by decide)
 have e5:w.cell? ⟨g',i * 11+5,none⟩=some (.int .i64 wh):=hcell 5 (by decide)
 have e6:w.cell? ⟨g',i * 11+6,none⟩=some (.bool wr):=hcell 6 (by decide)
 have e7:w.cell? ⟨g',i * 11+7,none⟩=some (.int .i64 c):=hcell 7 (by decide)
 have e8:w.cell? ⟨g',i * 11+8,none⟩=some (.bool o):=hcell 8 (by decide)
 have e9:w.cell? ⟨g',i * 11+9,none⟩=some (.bool h):=hcell 9 (by decide)
 have e10:w.cell? ⟨g',i * 11+10,none⟩=some (.int .i64 d):=hcell 10 (by decide)
 clear hcell
 rw[hl']
 have c1:=cw hB 1 (v:=.slice (some ⟨g',0,none⟩) xs.length cap)
 have hne:b≠g':=fun e=>hv (by simp[foot_slice,e])
 have HF:=AS (And.intro hb (And.intro (hf g' (by simp[foot_slice])) (And.intro hne (And.intro hlt' hbl))))
 have B1:=AS (blk_alloc hB (.cells #[.int .i64 0,.int .i64 0,.int .i64 0,.int .i64 0,.int .i64 0,.int .i64 0,.bool false,.int .i64 0,.bool false,.bool false,.int .i64 0] 47))
 have O2:=AS (hO.ks (KS.below (fun _=>False) (below_alloc (below_alloc (Below.refl _ w) (.cells #[.int .i64 0,.int .i64 0,.int .i64 0,.int .i64 0,.int .i64 0,.int .i64 0,.bool false,.int .i64 0,.bool false,.bool false,.int .i64 0] 47)) (.cells #[.int .i64 k,.int .i64 f,.int .i64 t,.int .i64 bb,.int .i64 q,.int .i64 wh,.bool wr,.int .i64 c,.bool o,.bool h,.int .i64 d] 47))) (fun _ _=>id))
 have B2:=AS (blk_alloc (blk_alloc hB (.cells #[.int .i64 0,.int .i64 0,.int .i64 0,.int .i64 0,.int .i64 0,.int .i64 0,.bool false,.int .i64 0,.bool false,.bool false,.int .i64 0] 47)) (.cells #[.int .i64 k,.int .i64 f,.int .i64 t,.int .i64 bb,.int .i64 q,.int .i64 wh,.bool wr,.int .i64 c,.bool o,.bool h,.int .i64 d] 47))
 have hi':decide (0≤(i:Int)/\(i:Int) < (xs.length:Int))=true:=by simp[hi]
 have q0:(0:Int)≤(i:Int):=by omega
 have q1:(i:Int) < (xs.length:Int):=by omega
 have q2:wrap64 ((i:Int)+1)=(i:Int)+1:=by unfold wrap64;omega
 have hneb:w.heap.size≠b:=by omega
 clear hB hO hv hb hf hne hl' hlt'
 go_enter Tryz.func57,Tryz.ntmps57
 go_wp2_with fail
 refine(netIs_any b rm _ xs.length cap i _ B1.out).mono ?_
 rintro e w1 ⟨rfl,rfl⟩
 rw[hi']
 go_wp2_with fail
 have X4:=AS (blk_alloc (blk_new w (.cells #[.int .i64 0,.int .i64 0,.int .i64 0,.int .i64 0,.int .i64 0,.int .i64 0,.bool false,.int .i64 0,.bool false,.bool false,.int .i64 0] 47)) (.cells #[.int .i64 k,.int .i64 f,.int .i64 t,.int .i64 bb,.int .i64 q,.int .i64 wh,.bool wr,.int .i64 c,.bool o,.bool h,.int .i64 d] 47))
 have X6:=AS (blk_new (w.alloc (.cells #[.int .i64 0,.int .i64 0,.int .i64 0,.int .i64 0,.int .i64 0,.int .i64 0,.bool false,.int .i64 0,.bool false,.bool false,.int .i64 0] 47)) (.cells #[.int .i64 k,.int .i64 f,.int .i64 t,.int .i64 bb,.int .i64 q,.int .i64 wh,.bool wr,.int .i64 c,.bool o,.bool h,.int .i64 d] 47))
 refine(delL_any O2.out hi).mono ?_
 rintro e w3 ⟨rfl,hO3,hK3⟩
 have O3:=AS hO3
 have K3:=AS hK3
 have B3:=AS (hK3.at_ B2.out (by have:=HF.out.2.2.1;simpa using this))
 have Y4:=AS (hK3.at_ X4.out (by have:=HF.out.2.2.2.1;simp;omega))
 have Y6:=AS (hK3.at_ X6.out (by have:=HF.out.2.2.2.1;simp;omega))
 clear hO3 hK3
 have y1:=cw B3.out 1 (v:=.slice (some ⟨g',0,none⟩) xs.length cap)
 have z1:=blk_frozen B3.out 1
 go_upto_region 5 with fail
 have ST:=AS (netStored B3.out O3.out ((KS.below F (below_alloc (below_alloc (Below.refl _ w) (.cells #[.int .i64 0,.int .i64 0,.int .i64 0,.int .i64 0,.int .i64 0,.int .i64 0,.bool false,.int .i64 0,.bool false,.bool false,.int .i64 0] 47)) (.cells #[.int .i64 k,.int .i64 f,.int .i64 t,.int .i64 bb,.int .i64 q,.int .i64 wh,.bool wr,.int .i64 c,.bool o,.bool h,.int .i64 d] 47))).trans (KS.ofKeeps (F:=F) K3.out (by have:=HF.out.2.1;intro x hx;simp at hx;subst hx;exact this)) (fun _ _ h=>h)) HF.out.1 (fun x=>F x/\x < w.heap.size) ⟨HF.out.1,HF.out.2.2.2.2⟩ (by intro x hx;simp[foot_slice] at hx;subst hx;exact⟨HF.out.2.1,HF.out.2.2.2.1⟩) (by simpa [foot_slice] using HF.out.2.2.1) ⟨h1,h2⟩ (by rw[List.length_eraseIdx_of_lt hi];omega))
 have U4:=AS (blk_far Y4.out (p:=⟨b,1,none⟩) (by have:=HF.out.2.2.2.2;simp;omega) (.slice (some ⟨g',0,none⟩) (xs.length - 1) cap))
 have U6:=AS (show(w3.setCell ⟨b,1,none⟩ (.slice (some ⟨g',0,none⟩) (xs.length - 1) cap)).heap[w.heap.size+1]?=some (.cells #[.int .i64 k,.int .i64 f,.int .i64 t,.int .i64 bb,.int .i64 q,.int .i64 wh,.bool wr,.int .i64 c,.bool o,.bool h,.int .i64 d] 47) from by have:=blk_far Y6.out (p:=⟨b,1,none⟩) (by have:=HF.out.2.2.2.2;simp;omega) (.slice (some ⟨g',0,none⟩) (xs.length - 1) cap);simpa using this)
 clear Y4 Y6 X4 X6 y1 z1 O3 B3 B1 B2 O2 K3 c1 e0 e1 e2 e3 e4 e5 e6 e7 e8 e9 e10
 generalize w3.setCell ⟨b,1,none⟩ (.slice (some ⟨g',0,none⟩) (xs.length - 1) cap)=w4 at *
 have f0:=cw U6.out 0 (v:=.int .i64 k)
 have f1:=cw U6.out 1 (v:=.int .i64 f)
 have f2:=cw U6.out 2 (v:=.int .i64 t)
 have f3:=cw U6.out 3 (v:=.int .i64 bb)
 have f4:=cw U6.out 4 (v:=.int .i64 q)
 have f5:=cw U6.out 5 (v:=.int .i64 wh)
 have f6:=cw U6.out 6 (v:=.bool wr)
 have f7:=cw U6.out 7 (v:=.int .i64 c)
 have f8:=cw U6.out 8 (v:=.bool o)
 have f9:=cw U6.out 9 (v:=.bool h)
 have f10:=cw U6.out 10 (v:=.int .i64 d)
 have p0:=cw U4.out 0 (v:=.int .i64 0)
 have p1:=cw U4.out 1 (v:=.int .i64 0)
 have p2:=cw U4.out 2 (v:=.int .i64 0)
 have p3:=cw U4.out 3 (v:=.int .i64 0)
 have p4:=cw U4.out 4 (v:=.int .i64 0)
 have p5:=cw U4.out 5 (v:=.int .i64 0)
 have p6:=cw U4.out 6 (v:=.bool false)
 have p7:=cw U4.out 7 (v:=.int .i64 0)
 have p8:=cw U4.out 8 (v:=.bool false)
 have p9:=cw U4.out 9 (v:=.bool false)
 have p10:=cw U4.out 10 (v:=.int .i64 0)
 have r0:=blk_frozen U4.out 0
 have r1:=blk_frozen U4.out 1
 have r2:=blk_frozen U4.out 2
 have r3:=blk_frozen U4.out 3
 have r4:=blk_frozen U4.out 4
 have r5:=blk_frozen U4.out 5
 have r6:=blk_frozen U4.out 6
 have r7:=blk_frozen U4.out 7
 have r8:=blk_frozen U4.out 8
 have r9:=blk_frozen U4.out 9
 have r10:=blk_frozen U4.out 10
 go_wp2
 have H5:((((((((((((w4).setCell ⟨w.heap.size,0,none⟩ (.int .i64 k)).setCell ⟨w.heap.size,1,none⟩ (.int .i64 f)).setCell ⟨w.heap.size,2,none⟩ (.int .i64 t)).setCell ⟨w.heap.size,3,none⟩ (.int .i64 bb)).setCell ⟨w.heap.size,4,none⟩ (.int .i64 q)).setCell ⟨w.heap.size,5,none⟩ (.int .i64 wh)).setCell ⟨w.heap.size,6,none⟩ (.bool wr)).setCell ⟨w.heap.size,7,none⟩ (.int .i64 c)).setCell ⟨w.heap.size,8,none⟩ (.bool o)).setCell ⟨w.heap.size,9,none⟩ (.bool h)).setCell ⟨w.heap.size,10,none⟩ (.int .i64 d)).heap[w.heap.size]?=some (.cells #[.int .i64 k,.int .i64 f,.int .i64 t,.int .i64 bb,.int .i64 q,.int .i64 wh,.bool wr,.int .i64 c,.bool o,.bool h,.int .i64 d] 47):=by have:=(blk_set (blk_set (blk_set (blk_set (blk_set (blk_set (blk_set (blk_set (blk_set (blk_set (blk_set U4.out 0 (.int .i64 k)) 1 (.int .i64 f)) 2 (.int .i64 t)) 3 (.int .i64 bb)) 4 (.int .i64 q)) 5 (.int .i64 wh)) 6 (.bool wr)) 7 (.int .i64 c)) 8 (.bool o)) 9 (.bool h)) 10 (.int .i64 d));simpa using this
 have K5:=AS (show KS F w ((((((((((((w4).setCell ⟨w.heap.size,0,none⟩ (.int .i64 k)).setCell ⟨w.heap.size,1,none⟩ (.int .i64 f)).setCell ⟨w.heap.size,2,none⟩ (.int .i64 t)).setCell ⟨w.heap.size,3,none⟩ (.int .i64 bb)).setCell ⟨w.heap.size,4,none⟩ (.int .i64 q)).setCell ⟨w.heap.size,5,none⟩ (.int .i64 wh)).setCell ⟨w.heap.size,6,none⟩ (.bool wr)).setCell ⟨w.heap.size,7,none⟩ (.int .i64 c)).setCell ⟨w.heap.size,8,none⟩ (.bool o)).setCell ⟨w.heap.size,9,none⟩ (.bool h)).setCell ⟨w.heap.size,10,none⟩ (.int .i64 d)) from((((((((((((((((((((((ST.out.2).set (g:=w.heap.size) (.inr (Nat.le_refl _)) 0 (.int .i64 k))).set (g:=w.heap.size) (.inr (Nat.le_refl _)) 1 (.int .i64 f))).set (g:=w.heap.size) (.inr (Nat.le_refl _)) 2 (.int .i64 t))).set (g:=w.heap.size) (.inr (Nat.le_refl _)) 3 (.int .i64 bb))).set (g:=w.heap.size) (.inr (Nat.le_refl _)) 4 (.int .i64 q))).set (g:=w.heap.size) (.inr (Nat.le_refl _)) 5 (.int .i64 wh))).set (g:=w.heap.size) (.inr (Nat.le_refl _)) 6 (.bool wr))).set (g:=w.heap.size) (.inr (Nat.le_refl _)) 7 (.int .i64 c))).set (g:=w.heap.size) (.inr (Nat.le_refl _)) 8 (.bool o))).set (g:=w.heap.size) (.inr (Nat.le_refl _)) 9 (.bool h))).set (g:=w.heap.size) (.inr (Nat.le_refl _)) 10 (.int .i64 d)))
 have K6:=AS (show KS (fun x=>x=w.heap.size) w4 ((((((((((((w4).setCell ⟨w.heap.size,0,none⟩ (.int .i64 k)).setCell ⟨w.heap.size,1,none⟩ (.int .i64 f)).setCell ⟨w.heap.size,2,none⟩ (.int .i64 t)).setCell ⟨w.heap.size,3,none⟩ (.int .i64 bb)).setCell ⟨w.heap.size,4,none⟩ (.int .i64 q)).setCell ⟨w.heap.size,5,none⟩ (.int .i64 wh)).setCell ⟨w.heap.size,6,none⟩ (.bool wr)).setCell ⟨w.heap.size,7,none⟩ (.int .i64 c)).setCell ⟨w.heap.size,8,none⟩ (.bool o)).setCell ⟨w.heap.size,9,none⟩ (.bool h)).setCell ⟨w.heap.size,10,none⟩ (.int .i64 d)) from(((((((((((KS.refl (fun x=>x=w.heap.size) w4).set (g:=w.heap.size) (.inl rfl) 0 (.int .i64 k)).set (g:=w.heap.size) (.inl rfl) 1 (.int .i64 f)).set (g:=w.heap.size) (.inl rfl) 2 (.int .i64 t)).set (g:=w.heap.size) (.inl rfl) 3 (.int .i64 bb)).set (g:=w.heap.size) (.inl rfl) 4 (.int .i64 q)).set (g:=w.heap.size) (.inl rfl) 5 (.int .i64 wh)).set (g:=w.heap.size) (.inl rfl) 6 (.bool wr)).set (g:=w.heap.size) (.inl rfl) 7 (.int .i64 c)).set (g:=w.heap.size) (.inl rfl) 8 (.bool o)).set (g:=w.heap.size) (.inl rfl) 9 (.bool h)).set (g:=w.heap.size) (.inl rfl) 10 (.int .i64 d))
 clear f0 p0 r0 f1 p1 r1 f2 p2 r2 f3 p3 r3 f4 p4 r4 f5 p5 r5 f6 p6 r6 f7 p7 r7 f8 p8 r8 f9 p9 r9 f10 p10 r10
 generalize (((((((((((w4).setCell ⟨w.heap.size,0,none⟩ (.int .i64 k)).setCell ⟨w.heap.size,1,none⟩ (.int .i64 f)).setCell ⟨w.heap.size,2,none⟩ (.int .i64 t)).setCell ⟨w.heap.size,3,none⟩ (.int .i64 bb)).setCell ⟨w.heap.size,4,none⟩ (.int .i64 q)).setCell ⟨w.heap.size,5,none⟩ (.int .i64 wh)).setCell ⟨w.heap.size,6,none⟩ (.bool wr)).setCell ⟨w.heap.size,7,none⟩ (.int .i64 c)).setCell ⟨w.heap.size,8,none⟩ (.bool o)).setCell ⟨w.heap.size,9,none⟩ (.bool h)).setCell ⟨w.heap.size,10,none⟩ (.int .i64 d)=w5 at *
 have v0:=cw H5 0 (v:=.int .i64 k)
 have v1:=cw H5 1 (v:=.int .i64 f)
 have v2:=cw H5 2 (v:=.int .i64 t)
 have v3:=cw H5 3 (v:=.int .i64 bb)
 have v4:=cw H5 4 (v:=.int .i64 q)
 have v5:=cw H5 5 (v:=.int .i64 wh)
 have v6:=cw H5 6 (v:=.bool wr)
 have v7:=cw H5 7 (v:=.int .i64 c)
 have v8:=cw H5 8 (v:=.bool o)
 have v9:=cw H5 9 (v:=.bool h)
 have v10:=cw H5 10 (v:=.int .i64 d)
 refine bodyPost_ret (v:=.tuple #[letV ⟨k,f,t,bb,q,wh,wr,⟨c,o,h,d⟩⟩,.bool true]) (by simp[results,Tryz.results57,go_sem,letV,v0,v1,v2,v3,v4,v5,v6,v7,v8,v9,v10];try rfl) rfl ?_
 exact⟨rfl,ST.out.1.keep K6.out (fun x _ h=>⟨.inl h.1,by have:=h.2;show ¬ x=w.heap.size;omega⟩),K5.out⟩
theorem netDrop_no {rm:Int} {xs:List Let} {b i:Nat} {F:Set_} {w:Go.World} (hN:NetAt rm xs b F w) (hi:i < xs.length) (ha:((xs.getD i let0).kind == 2)=false) :
  Calls Tryz.prog 32 #[.pointer (some ⟨b,0,none⟩),.int .i64 i] w (NetP (.bool false) rm xs b F w):=by
 have N:=AS hN
 have hbl:=hN.lt
 obtain⟨v,hB,hO,hv,hb,hf,h1,h2,h3⟩:=hN
 obtain⟨g',cap,rfl,hc63,hcap,hlt',hcell⟩:=own_some hO hi
 generalize hl:xs.getD i letE.d=l at *
 have hl':xs.getD i let0=l:=hl
 clear hl
 obtain⟨k,f,t,bb,q,wh,wr,⟨c,o,h,d⟩⟩:=l
 have e0:w.cell? ⟨g',i * 11,none⟩=some (.int .i64 k):=hcell 0 (by decide)
 have e1:w.cell? ⟨g',i * 11+1,none⟩=some (.int .i64 f):=hcell 1 (by decide)
 have e2:w.cell? ⟨g',i * 11+2,none⟩=some (.int .i64 t):=hcell 2 (by decide)
 have e3:w.cell? ⟨g',i * 11+3,none⟩=some (.int .i64 bb):=hcell 3 (by decide)
 have e4:w.cell? ⟨g',i * 11+4,none⟩=some (.int .i64 q):=hcell 4 (by decide)
 have e5:w.cell? ⟨g',i * 11+5,none⟩=some (.int .i64 wh):=hcell 5 (by decide)
 have e6:w.cell? ⟨g',i * 11+6,none⟩=some (.bool wr):=hcell 6 (by decide)
 have e7:w.cell? ⟨g',i * 11+7,none⟩=some (.int .i64 c):=hcell 7 (by decide)
 have e8:w.cell? ⟨g',i * 11+8,none⟩=some (.bool o):=hcell 8 (by decide)
 have e9:w.cell? ⟨g',i * 11+9,none⟩=some (.bool h):=hcell 9 (by decide)
 have e10:w.cell? ⟨g',i * 11+10,none⟩=some (.int .i64 d):=hcell 10 (by decide)
 clear hcell
 rw[hl'] at ha
 have ha':(k == 2)=false:=ha
 have DR:=AS (drops_any ⟨k,f,t,bb,q,wh,wr,⟨c,o,h,d⟩⟩)
 have c1:=cw hB 1 (v:=.slice (some ⟨g',0,none⟩) xs.length cap)
 have hne:b≠g':=fun e=>hv (by simp[foot_slice,e])
 have HF:=AS (And.intro hb (And.intro (hf g' (by simp[foot_slice])) (And.intro hne (And.intro hlt' hbl))))
 have O1:=AS hO
 have B1:=AS hB
 have hi':decide (0≤(i:Int)/\(i:Int) < (xs.length:Int))=true:=by simp[hi]
 have q0:(0:Int)≤(i:Int):=by omega
 have q1:(i:Int) < (xs.length:Int):=by omega
 have q2:wrap64 ((i:Int)+1)=(i:Int)+1:=by unfold wrap64;omega
 clear hB hO hv hb hf hne hl' hlt' ha
 go_enter Tryz.func32,Tryz.ntmps32
 go_wp2_with fail
 refine(netIs_any b rm _ xs.length cap i _ B1.out).mono ?_
 rintro e w1 ⟨rfl,rfl⟩
 rw[hi']
 go_wp2_with fail
 refine(DR.out _).mono ?_
 rintro e w2 ⟨rfl,hbe⟩
 rw[show((⟨k,f,t,bb,q,wh,wr,⟨c,o,h,d⟩⟩:Let).kind == 2)=false from ha']
 have BE:=AS hbe
 have B2:=AS (blk_below B1.out hbe)
 have O2:=AS (O1.out.ks (KS.below (fun _=>False) hbe) (fun _ _=>id))
 have c2:=cw B2.out 1 (v:=.slice (some ⟨g',0,none⟩) xs.length cap)
 clear hbe
 go_wp2
 go_ret
 exact⟨rfl,N.out.keep (KS.below (fun _=>False) BE.out) (fun x _ h=>⟨.inl h,id⟩),KS.below _ BE.out⟩
theorem netDrop_yes {rm:Int} {xs:List Let} {b i:Nat} {F:Set_} {w:Go.World} (hN:NetAt rm xs b F w) (hi:i < xs.length) (ha:((xs.getD i let0).kind == 2)=true) :
  Calls Tryz.prog 32 #[.pointer (some ⟨b,0,none⟩),.int .i64 i] w (NetP (.bool true) rm (xs.eraseIdx i) b F w):=by
 have N:=AS hN
 have hbl:=hN.lt
 obtain⟨v,hB,hO,hv,hb,hf,h1,h2,h3⟩:=hN
 obtain⟨g',cap,rfl,hc63,hcap,hlt',hcell⟩:=own_some hO hi
 generalize hl:xs.getD i letE.d=l at *
 have hl':xs.getD i let0=l:=hl
 clear hl
 obtain⟨k,f,t,bb,q,wh,wr,⟨c,o,h,d⟩⟩:=l
 have e0:w.cell? ⟨g',i * 11,none⟩=some (.int .i64 k):=hcell 0 (by decide)
 have e1:w.cell? ⟨g',i * 11+1,none⟩=some (.int .i64 f):=hcell 1 (by decide)
 have e2:w.cell? ⟨g',i * 11+2,none⟩=some (.int .i64 t):=hcell 2 (by decide)
 have e3:w.cell? ⟨g',i * 11+3,none⟩=some (.int .i64 bb):=hcell 3 (by decide)
 have e4:w.cell? ⟨g',i * 11+4,none⟩=some (.int .i64 q):=hcell 4 (by decide)
 have e5:w.cell? ⟨g',i * 11+5,none⟩=some (.int .i64 wh):=hcell 5 (by decide)
 have e6:w.cell? ⟨g',i * 11+6,none⟩=some (.bool wr):=hcell 6 (by decide)
 have e7:w.cell? ⟨g',i * 11+7,none⟩=some (.int .i64 c):=hcell 7 (by decide)
 have e8:w.cell? ⟨g',i * 11+8,none⟩=some (.bool o):=hcell 8 (by decide)
 have e9:w.cell? ⟨g',i * 11+9,none⟩=some (.bool h):=hcell 9 (by decide)
 have e10:w.cell? ⟨g',i * 11+10,none⟩=some (.int .i64 d):=hcell 10 (by decide)
 clear hcell
 rw[hl'] at ha
 have ha':(k == 2)=true:=ha
 have DR:=AS (drops_any ⟨k,f,t,bb,q,wh,wr,⟨c,o,h,d⟩⟩)
 have c1:=cw hB 1 (v:=.slice (some ⟨g',0,none⟩) xs.length cap)
 have hne:b≠g':=fun e=>hv (by simp[foot_slice,e])
 have HF:=AS (And.intro hb (And.intro (hf g' (by simp[foot_slice])) (And.intro hne (And.intro hlt' hbl))))
 have O1:=AS hO
 have B1:=AS hB
 have hi':decide (0≤(i:Int)/\(i:Int) < (xs.length:Int))=true:=by simp[hi]
 have q0:(0:Int)≤(i:Int):=by omega
 have q1:(i:Int) < (xs.length:Int):=by omega
 have q2:wrap64 ((i:Int)+1)=(i:Int)+1:=by unfold wrap64;omega
 clear hB hO hv hb hf hne hl' hlt' ha
 go_enter Tryz.func32,Tryz.ntmps32
 go_wp2_with fail
 refine(netIs_any b rm _ xs.length cap i _ B1.out).mono ?_
 rintro e w1 ⟨rfl,rfl⟩
 rw[hi']
 go_wp2_with fail
 refine(DR.out _).mono ?_
 rintro e w2 ⟨rfl,hbe⟩
 rw[show((⟨k,f,t,bb,q,wh,wr,⟨c,o,h,d⟩⟩:Let).kind == 2)=true from ha']
 have BE:=AS hbe
 have B2:=AS (blk_below B1.out hbe)
 have O2:=AS (O1.out.ks (KS.below (fun _=>False) hbe) (fun _ _=>id))
 have c2:=cw B2.out 1 (v:=.slice (some ⟨g',0,none⟩) xs.length cap)
 clear hbe
 go_wp2_with fail
 refine(delL_any O2.out hi).mono ?_
 rintro e w3 ⟨rfl,hO3,hK3⟩
 have O3:=AS hO3
 have K3:=AS hK3
 have B3:=AS (hK3.at_ B2.out (by have:=HF.out.2.2.1;simpa using this))
 clear hO3 hK3
 have y1:=cw B3.out 1 (v:=.slice (some ⟨g',0,none⟩) xs.length cap)
 have z1:=blk_frozen B3.out 1
 go_wp2
 go_ret
 exact⟨rfl,netStored B3.out O3.out ((KS.below F BE.out).trans (KS.ofKeeps (F:=F) K3.out (by have:=HF.out.2.1;intro x hx;simp at hx;subst hx;exact this)) (fun _ _ h=>h)) HF.out.1 (gr F w) (.inl HF.out.1) (by intro x hx;simp[foot_slice] at hx;subst hx;exact .inl HF.out.2.1) (by simpa [foot_slice] using HF.out.2.2.1) ⟨h1,h2⟩ (by rw[List.length_eraseIdx_of_lt hi];omega)⟩
theorem netDrop_out {rm:Int} {xs:List Let} {b:Nat} {i:Int} {F:Set_} {w:Go.World} (hN:NetAt rm xs b F w) (hi:netHas xs i=false) :
  Calls Tryz.prog 32 #[.pointer (some ⟨b,0,none⟩),.int .i64 i] w (NetP (.bool false) rm xs b F w):=by
 have N:=AS hN
 obtain⟨v,hB,hO,hv,hb,hf,h1,h2,h3⟩:=hN
 obtain⟨A,c,rfl,hr,hc,hm,hn⟩:=hO.row
 have B1:=AS hB
 have hi':decide (0≤i/\i < (xs.length:Int))=false:=hi
 clear hr hO hB hf hv hn hi
 go_enter Tryz.func32,Tryz.ntmps32
 go_wp2_with fail
 refine(netIs_any b rm A xs.length c i _ B1.out).mono ?_
 rintro e w1 ⟨rfl,rfl⟩
 rw[hi']
 go_wp2
 go_ret
 exact⟨rfl,N.out.keep (KS.refl (fun _=>False) _) (fun x _ h=>⟨.inl h,id⟩),KS.refl _ _⟩
theorem netHas_nat {xs:List Let} {i:Int} (h:netHas xs i=true):∃ n:Nat,i=n/\n < xs.length:=by
 simp[netHas] at h
 exact⟨i.toNat,by omega,by omega⟩
def netGot (xs:List Let) (i:Int):Let:=if netHas xs i then xs.getD i.toNat let0 else let0
def netLeft (xs:List Let) (i:Int):List Let:=if netHas xs i then xs.eraseIdx i.toNat else xs
def netLoses (xs:List Let) (i:Int):Bool:=netHas xs i && (xs.getD i.toNat let0).kind == 2
def netLost (xs:List Let) (i:Int):List Let:=if netLoses xs i then xs.eraseIdx i.toNat else xs
def netSent (rm:Int) (xs ys:List Let):List Let:=if (ys.length:Int)≤rm - xs.length then xs ++ ys else xs
theorem netTake_any {rm:Int} {xs:List Let} {b:Nat} {F:Set_} (i:Int) {w:Go.World} (hN:NetAt rm xs b F w) :
  Calls Tryz.prog 57 #[.pointer (some ⟨b,0,none⟩),.int .i64 i] w (NetP (.tuple #[letV (netGot xs i),.bool (netHas xs i)]) rm (netLeft xs i) b F w):=by
 cases h:netHas xs i with
 | false =>
  rw[show netLeft xs i=xs by simp[netLeft,h],show netGot xs i=let0 by simp[netGot,h]]
  exact netTake_no hN h
 | true =>
  obtain⟨n,rfl,hn⟩:=netHas_nat h
  rw[show netLeft xs n=xs.eraseIdx n by simp[netLeft,h],show netGot xs n=xs.getD n let0 by simp[netGot,h]]
  exact netTake_yes hN hn
theorem netDrop_any {rm:Int} {xs:List Let} {b:Nat} {F:Set_} (i:Int) {w:Go.World} (hN:NetAt rm xs b F w) :
  Calls Tryz.prog 32 #[.pointer (some ⟨b,0,none⟩),.int .i64 i] w (NetP (.bool (netLoses xs i)) rm (netLost xs i) b F w):=by
 cases h:netHas xs i with
 | false =>
  have h1:netLoses xs i=false:=by simp[netLoses,h]
  rw[show netLost xs i=xs by simp[netLost,h1],h1]
  exact netDrop_out hN h
 | true =>
  obtain⟨n,rfl,hn⟩:=netHas_nat h
  cases h2:((xs.getD n let0).kind == 2) with
  | false =>
   have h1:netLoses xs n=false:=by simp only[netLoses,h,Int.toNat_natCast,h2];rfl
   rw[show netLost xs n=xs by simp[netLost,h1],h1]
   exact netDrop_no hN hn h2
  | true =>
   have h1:netLoses xs n=true:=by simp only[netLoses,h,Int.toNat_natCast,h2];rfl
   rw[show netLost xs n=xs.eraseIdx n by simp[netLost,h1],h1]
   exact netDrop_yes hN hn h2
theorem netSend_any {rm:Int} {xs ys:List Let} {b c2:Nat} {F:Set_} {A2:Option Addr} {w:Go.World} (hN:NetAt rm xs b F w) (hl:ys.length≤9223372036854775807) (hR:RowE letE w A2 ys) :
  Calls Tryz.prog 35 #[.pointer (some ⟨b,0,none⟩),.slice A2 ys.length c2] w (NetP (.bool (decide ((ys.length:Int)≤rm - xs.length))) rm (netSent rm xs ys) b F w):=by
 by_cases h:(ys.length:Int)≤rm - xs.length
 ·rw[show netSent rm xs ys=xs ++ ys from if_pos h,decide_eq_true h]
  exact netSend_yes hN hR h
 ·rw[show netSent rm xs ys=xs from if_neg h,decide_eq_false h]
  exact netSend_no hN hl h
theorem netCopy_any {rm:Int} {xs:List Let} {b:Nat} {F:Set_} {w:Go.World} (hN:NetAt rm xs b F w):Calls Tryz.prog 52 #[.pointer (some ⟨b,0,none⟩)] w fun e w'=>∃ b',e=.returned (.pointer (some ⟨b',0,none⟩))/\NetAt rm xs b' (nw w) w'/\Below w.heap.size w w':=by
 have N:=AS hN
 obtain⟨v,hB,hO,hv,hb,hf,h1,h2,h3⟩:=hN
 have c0:=cw hB 0 (v:=.int .i64 rm)
 have B1:=AS hB
 have HL:=AS (netList_any N.out)
 clear hB hO hv hb hf
 go_enter Tryz.func52,Tryz.ntmps52
 go_wp2_with fail
 go_region_with (go_at_call 37;refine(netList_any (F:=F) (by exact N.out.keep (KS.drew (KS.refl (fun _=>False) w)) (fun x _ h=>⟨h,id⟩))).mono ?_;rintro e w1 ⟨u,rfl,hO,hf,hb⟩;obtain⟨A1,n1,k1,rfl⟩:∃ A n c,u=.slice A n c:=(by obtain⟨A,c,h,_⟩:=OwnE.row hO;exact⟨_,_,_,h⟩);have O1:=AS hO;have BB:=AS hb;have FF:=AS hf;have Y1:=AS (blk_below (w:=w.drew) B1.out (w1:=w1) hb);clear hO hb hf;have y0:w1.cell? ⟨b,0,none⟩=some (.int .i64 rm):=cw Y1.out 0)
 all_goals
  go_wp2
  go_ret
  have hb:Below w.heap.size w w1:=(Below.drew (Below.refl _ _)).trans BB.out
  have hs:=hb.size
  have hs1:∀ x∈foot (.slice A1 n1 k1),w.heap.size≤x:=FF.out
  refine⟨_,rfl,⟨_,blk_new w1 _,O1.out.ks (KS.below (fun _=>False) (below_alloc (Below.refl _ _) _)) (fun _ _=>id),?_,hs,hs1,h1,h2,h3⟩,below_alloc hb _⟩
  intro hx
  have:=O1.out.lt _ hx
  omega
end Go.Proofs.YtiebppkhaiofeaaGreat.K
namespace Go.Proofs.YtiebppkhaiofeaaGreat.K
open Go.RowKit Go.Proofs.YtiebppkhaiofeaaGreatW.PrintWords Go.Proofs.YtiebppkhaiofeaaGreat.S
attribute [local go_sem] World.cell?_alloc_some
theorem total_live (w:Go.World):Calls Tryz.prog 44 #[.int .i64 1,.int .i64 0] w (RQ (.int .i64 1) w):=by
 go_enter Tryz.func44,Tryz.ntmps44
 go_wp2_with (go_at_call 73;refine(clamp_any _ _ _ _).mono ?_;rintro e w1 ⟨rfl,rfl⟩;simp only[clamp])
 go_ret
 exact RQ.of (by show Value.int .i64 (wrap64 (max (min 1 64) 1 * wrap64 (wrap64 (2 ^ (max (min 0 8) 0+1:Int).toNat) - 1)))=_;refine congrArg _ ?_;rw[show max (min (1:Int) 64) 1=1 by omega,show max (min (0:Int) 8) 0=0 by omega,show(2:Int) ^ (0+1:Int).toNat=2 from rfl];unfold wrap64;omega)
def c0:Cfg:=⟨2,1,2,1,1,100,1,0,1⟩
theorem bound_live (w:Go.World):Calls Tryz.prog 19 #[cfgV c0,.int .i64 1] w (RV (.int .i64 19) w):=by
 simp only[cfgV,c0]
 go_enter Tryz.func19,Tryz.ntmps19
 go_wp2_with fail
 refine(config_any c0 _).mono ?_
 rintro e w1 ⟨rfl,hb⟩
 rw[show c0.check=0 by decide]
 obtain⟨hcl,hfr⟩:=bcell hb
 have B1:=AS hb
 clear hb
 go_wp2_with fail
 go_region_with (go_at_call 44;refine(total_live _).mono ?_;rintro e w2 ⟨rfl,rfl⟩)
 all_goals
  go_wp2
  go_ret
  exact RV.of (by rfl) (by repeat (first | with_reducible exact Below.refl _ _ | with_reducible apply Below.drew | with_reducible apply below_alloc | exact bfin (below_alloc (Below.refl _ _) _) B1.out))
theorem rconfig_any (c:Cfg) (w:Go.World):Calls Tryz.prog 11 #[cfgV c] w (RV (.int .i64 c.check) w):=by
 obtain⟨n,b,t,se,wa,ca,wt,tr,po⟩:=c
 simp only[cfgV]
 go_enter Tryz.func11,Tryz.ntmps11
 go_wp2
 all_goals
  go_ret
  exact RV.of (by unfold Cfg.check within;(repeat' split) <;> first | rfl | (exfalso;simp_all;done) | (exfalso;simp_all;omega)) (by repeat (with_reducible first | exact Below.refl _ _ | apply below_alloc | apply Below.drew))
theorem great18_any (c:Cfg) (A:Option Addr) (n cp:Nat) (w:Go.World):Calls Tryz.prog 20 #[cfgV c,.slice A n cp] w (RV (.bool (decide (300 < n) || decide (c.nodes > 6) || decide (c.blocks > 6) || decide (c.cap > 5000))) w):=by
 obtain⟨nn,b,t,se,wa,ca,wt,tr,po⟩:=c
 simp only[cfgV]
 go_enter Tryz.func20,Tryz.ntmps20
 go_wp2
 all_goals
  go_ret
  exact RV.of (by first | rfl | (show Value.bool _=Value.bool _;refine congrArg _ ?_;rw[Bool.eq_iff_iff];simp;done) | (show Value.bool _=Value.bool _;refine congrArg _ ?_;rw[Bool.eq_iff_iff];simp;omega)) (by repeat (with_reducible first | exact Below.refl _ _ | apply below_alloc | apply Below.drew))
end Go.Proofs.YtiebppkhaiofeaaGreat.K
namespace Go.Proofs.YtiebppkhaiofeaaGreat.K
open Go.RowKit Go.Proofs.YtiebppkhaiofeaaGreatW.PrintWords Go.Proofs.YtiebppkhaiofeaaGreat.S
def great18 (c:Cfg) (n:Nat):Bool:=decide (300 < n) || decide (c.nodes > 6) || decide (c.blocks > 6) || decide (c.cap > 5000)
def played (c:Cfg) (n:Nat):Bool:=c.check == 0 && !great18 c n
theorem played_any (c:Cfg) (A:Option Addr) (n cp:Nat) (w:Go.World):Calls Tryz.prog 7 #[cfgV c,.slice A n cp] w (RV (.bool (played c n)) w):=by
 obtain⟨nn,b,t,se,wa,ca,wt,tr,po⟩:=c
 have hpl:=AS (show ∀ x y:Bool,((Cfg.check ⟨nn,b,t,se,wa,ca,wt,tr,po⟩ == 0)=x)->great18 ⟨nn,b,t,se,wa,ca,wt,tr,po⟩ n=y->played ⟨nn,b,t,se,wa,ca,wt,tr,po⟩ n=(x && !y) from fun x y h1 h2=>by unfold played;rw[h1,h2])
 generalize hpv:played ⟨nn,b,t,se,wa,ca,wt,tr,po⟩ n=pv at *
 simp only[cfgV]
 cases hc:(Cfg.check ⟨nn,b,t,se,wa,ca,wt,tr,po⟩ == 0)
 ·have HP:=AS (hpl.out false _ hc rfl)
  clear hpl hpv
  have HC:=AS hc
  clear hc
  go_enter Tryz.func7,Tryz.ntmps7
  go_wp2_with fail
  refine(rconfig_any ⟨nn,b,t,se,wa,ca,wt,tr,po⟩ _).mono ?_
  rintro e w1 ⟨rfl,hb⟩
  have B1:=AS hb
  clear hb
  have hc:=HC.out
  go_wp2
  go_ret
  exact RV.of (by rw[HP.out];rfl) (bfin (below_alloc (Below.refl _ _) _) B1.out)
 ·cases hg:great18 ⟨nn,b,t,se,wa,ca,wt,tr,po⟩ n
  all_goals
   have HP:=AS (hpl.out true _ hc hg)
   have HG:=AS hg
   have HC:=AS hc
   clear hg hc hpv
   go_enter Tryz.func7,Tryz.ntmps7
   go_wp2_with fail
   refine(rconfig_any ⟨nn,b,t,se,wa,ca,wt,tr,po⟩ _).mono ?_
   rintro e w1 ⟨rfl,hb⟩
   obtain⟨hcl,hfr⟩:=bcell hb
   have B1:=AS hb
   clear hb
   have hc:=HC.out
   go_wp2_with fail
   refine(great18_any ⟨nn,b,t,se,wa,ca,wt,tr,po⟩ A n cp _).mono ?_
   rintro e w2 ⟨rfl,hb⟩
   have B2:=AS hb
   clear hb
   rw[show(decide (300 < n) || decide ((⟨nn,b,t,se,wa,ca,wt,tr,po⟩:Cfg).nodes > 6) || decide ((⟨nn,b,t,se,wa,ca,wt,tr,po⟩:Cfg).blocks > 6) || decide ((⟨nn,b,t,se,wa,ca,wt,tr,po⟩:Cfg).cap > 5000))=_ from HG.out]
   go_wp2
   go_ret
   exact RV.of (by rw[HP.out];rfl) (bfin (bfin (below_alloc (Below.refl _ _) _) B1.out) B2.out)
end Go.Proofs.YtiebppkhaiofeaaGreat.K
