/- Part of the proof of TopPolicies: what functions of the program do. -/
import Derived.Test.YtiebppkhaiofeaaGreatP25
import Derived.Test.YtiebppkhaiofeaaGreatP00
set_option maxHeartbeats 4000000
set_option maxRecDepth 100000
set_option linter.unusedVariables false
set_option linter.unusedSimpArgs false
open Go.IntKind renaming i64→I
open Go.Value renaming slice→J, int→V, bool→aA, pointer→bA
open Option renaming some→M, none→U
open Go.Obj renaming cells→O
open Go.ChangeMaps renaming setBlock→aB
open Go renaming Calls→bB, World→cA, bodyPost_ret→yA
open List renaming getD_eq_getElem?_getD→cB, getElem?_eq_getElem→dB
open Go.Proofs.Tryz renaming prog→dA
open Go.Proofs.YtiebppkhaiofeaaGreatW.PrintWords renaming below_alloc→eA, blk_lt→eB, blk_frozen→jA, blk_below→kA, blk_alloc→lA, blk_set→mA, blk_new→nA
open Go.RowKit.Below renaming refl→fA, setCell→oA
open Go.Proofs.YtiebppkhaiofeaaGreat.K.KS renaming below→pB, refl→qB, drew→sB, set1→tB
open And renaming intro→qA
open Go.World renaming size_alloc→rA
open Bool renaming false_eq_true→vA
namespace Go.Proofs.YtiebppkhaiofeaaGreat.K
open Go.RowKit Go.Proofs.YtiebppkhaiofeaaGreatW.PrintWords Go.Proofs.YtiebppkhaiofeaaGreat.S
attribute [local go_sem] World.cell?_alloc_some
open Go.ChangeMaps Go.MapKept
theorem RegAt.keep {r:Regs} {b:Nat} {F F' G:Set_} {w w':cA} (h:RegAt r b F w) (hk:KS G w w') (hs:∀ x,x < w.heap.size->F x->F' x/\¬ G x):RegAt r b F' w':=by
 obtain⟨bv,bc,h1,h2,h3,h4,h5,h6,h7,h8,h9⟩:=h
 exact⟨bv,bc,hk.at_ h1 (hs b (eB h1) h7).2,h2.keep hk (hs bv h2.lt h8).2,h3.keep hk (hs bc h3.lt h9).2,h4,h5,h6,(hs b (eB h1) h7).1,(hs bv h2.lt h8).1,(hs bc h3.lt h9).1⟩
def RegP (v:Value) (r:Regs) (b:Nat) (F:Set_) (w:cA) (e:Ending) (w':cA):Prop:=e=.returned v/\RegAt r b (gr F w) w'/\KS F w w'
theorem regDo_any {r:Regs} {b:Nat} {F:Set_} {w:cA} (hR:RegAt r b F w) (nd nu bl:Int) (wr:Bool) (ov va st:Int):bB dA 41 #[bA (M ⟨b,0,U⟩),.agg #[V I nd,V I nu,V I bl,aA wr,V I ov,V I va,V I st]] w (RegP (aA (r.doIt (⟨nd,nu,⟨bl,wr,ov⟩,va,st⟩:S.Done)).2) (r.doIt (⟨nd,nu,⟨bl,wr,ov⟩,va,st⟩:S.Done)).1 b F w):=by
 have HR0:=AS hR
 obtain⟨bv,bc,h1,⟨ev,cv_,fv,v1,v2,v3⟩,⟨ec,cc,fc,c1,c2,c3⟩,h4,h5,h6,h7,h8,h9⟩:=hR
 have BE:=AS (eA (fA w.heap.size w) (O #[V I nd,V I nu,V I bl,aA wr,V I ov,V I va,V I st] 59))
 have BX:=AS (nA w (O #[V I nd,V I nu,V I bl,aA wr,V I ov,V I va,V I st] 59))
 have RB:=AS (HR0.out.keep (F':=F) (pB (fun _=>False) BE.out) (fun x _ h=>⟨h,id⟩))
 have lkv:=fun n=>v2.look (map_drewN (map_alloc v1 (O #[V I nd,V I nu,V I bl,aA wr,V I ov,V I va,V I st] 59)) n) under158 under3 (zero2 _) bl
 have lkc:=fun n=>c2.look (map_drewN (map_alloc c1 (O #[V I nd,V I nu,V I bl,aA wr,V I ov,V I va,V I st] 59)) n) under31 under3 (zero3 _) nd
 simp only[v3 bl] at lkv
 simp only[c3 nd] at lkc
 have b0:(w.alloc (O #[V I nd,V I nu,V I bl,aA wr,V I ov,V I va,V I st] 59)).cell? ⟨b,0,U⟩=M (.map (M bv)):=cw (lA h1 _) 0
 have b1:(w.alloc (O #[V I nd,V I nu,V I bl,aA wr,V I ov,V I va,V I st] 59)).cell? ⟨b,1,U⟩=M (.map (M bc)):=cw (lA h1 _) 1
 have b2:(w.alloc (O #[V I nd,V I nu,V I bl,aA wr,V I ov,V I va,V I st] 59)).cell? ⟨b,2,U⟩=M (V I r.step):=cw (lA h1 _) 2
 have d0_:=cw BX.out 0 (v:=V I nd)
 have d1_:=cw BX.out 1 (v:=V I nu)
 have d2_:=cw BX.out 2 (v:=V I bl)
 have d3_:=cw BX.out 3 (v:=aA wr)
 have d4_:=cw BX.out 4 (v:=V I ov)
 have d5_:=cw BX.out 5 (v:=V I va)
 have d6_:=cw BX.out 6 (v:=V I st)
 have DO:=AS (show r.doIt (⟨nd,nu,⟨bl,wr,ov⟩,va,st⟩:S.Done)=(if nu≠wrap64 (r.cnt nd+1)∨st < r.step∨va≠r.want (⟨nd,nu,⟨bl,wr,ov⟩,va,st⟩:S.Done) then (r,false) else (⟨upd r.val bl (r.want (⟨nd,nu,⟨bl,wr,ov⟩,va,st⟩:S.Done)),upd r.cnt nd nu,st⟩,true)) from rfl)
 have WT:=AS (show r.want (⟨nd,nu,⟨bl,wr,ov⟩,va,st⟩:S.Done)=(if wr then ov else r.val bl) from rfl)
 generalize hd:r.doIt (⟨nd,nu,⟨bl,wr,ov⟩,va,st⟩:S.Done)=Dr at *
 generalize hw:r.want (⟨nd,nu,⟨bl,wr,ov⟩,va,st⟩:S.Done)=wt at *
 have VC:=AS (qA v2 (qA v3 (qA c2 c3)))
 have HH:=AS (qA h4 (qA h5 (qA h6 (qA h7 (qA h8 h9)))))
 have HM:=AS (qA h1 (qA v1 c1))
 clear hd hw v2 v3 c2 c3 h4 h5 h6 h7 h8 h9
 go_enter Tryz.func41,Tryz.ntmps41
 go_upto_region 1 with fail
 go_quiet (fail)
 revert nq
 intro n1
 have NO:=AS (show ∀ W',Below (w.alloc (O #[V I nd,V I nu,V I bl,aA wr,V I ov,V I va,V I st] 59)).heap.size (w.alloc (O #[V I nd,V I nu,V I bl,aA wr,V I ov,V I va,V I st] 59)) W'->RegAt r b (gr F w) W'/\KS F w W' from fun W' hb=>⟨RB.out.keep (pB (fun _=>False) hb) (fun x _ h=>⟨.inl h,id⟩),(pB _ BE.out).andBelow hb⟩)
 cases wr
 ·have hwt:=WT.out
  simp only[vA,if_false,if_true] at hwt
  subst hwt
  clear WT
  go_upto_region 4 with fail
  by_cases q1:nu=wrap64 (r.cnt nd+1)
  case neg =>
   have hr:=DO.out.trans (if_pos (.inl q1))
   have HRR:=AS hr
   have g1:(nu != wrap64 (r.cnt nd+1))=true:=by simp[q1]
   clear q1 hr
   go_quiet (fail)
   go_wp2
   go_ret
   rw[HRR.out]
   exact⟨rfl,NO.out _ (by repeat (with_reducible first | exact fA _ _ | refine bdrewN ?_ _))⟩
  case pos =>
   have g1:(nu != wrap64 (r.cnt nd+1))=false:=by simp[q1]
   by_cases q2:st < r.step
   case pos =>
    have hr:=DO.out.trans (if_pos (.inr (.inl q2)))
    have HRR:=AS hr
    have g2:decide (st < r.step)=true:=decide_eq_true q2
    have HQ1:=AS q1
    clear q1 q2 hr
    go_quiet (fail)
    go_wp2
    go_ret
    rw[HRR.out]
    exact⟨rfl,NO.out _ (by repeat (with_reducible first | exact fA _ _ | refine bdrewN ?_ _))⟩
   case neg =>
    have g2:decide (st < r.step)=false:=decide_eq_false q2
    by_cases q3:va=r.val bl
    case neg =>
     have hr:=DO.out.trans (if_pos (.inr (.inr q3)))
     have HRR:=AS hr
     have g3:(va != r.val bl)=true:=by simp[q3]
     have HQ:=AS (qA q1 (qA q2 q3))
     clear q1 q2 q3 hr
     go_quiet (fail)
     go_wp2
     go_ret
     rw[HRR.out]
     exact⟨rfl,NO.out _ (by repeat (with_reducible first | exact fA _ _ | refine bdrewN ?_ _))⟩
    case pos =>
     have hr:=DO.out.trans (if_neg (by rintro(h | h | h);exact h q1;exact q2 h;exact h q3))
     have HRR:=AS hr
     have g3:(va != r.val bl)=false:=by simp[q3]
     have HQ:=AS (qA q1 (qA q2 q3))
     clear q1 q2 q3 hr
     go_quiet (fail)
     go_upto_region 6 with fail
     have BG:=AS (show Below (w.alloc (O #[V I nd,V I nu,V I bl,aA false,V I ov,V I va,V I st] 59)).heap.size (w.alloc (O #[V I nd,V I nu,V I bl,aA false,V I ov,V I va,V I st] 59)) (((w.alloc (O #[V I nd,V I nu,V I bl,aA false,V I ov,V I va,V I st] 59)).drewN n1).drewN nq) from bdrewN (bdrewN (fA _ _) _) _)
     have GX:=AS (kA BX.out BG.out)
     have GB:=AS (kA (lA HM.out.1 (O #[V I nd,V I nu,V I bl,aA false,V I ov,V I va,V I st] 59)) BG.out)
     have GV:=AS (kA (lA HM.out.2.1 (O #[V I nd,V I nu,V I bl,aA false,V I ov,V I va,V I st] 59)) BG.out)
     have GC:=AS (kA (lA HM.out.2.2 (O #[V I nd,V I nu,V I bl,aA false,V I ov,V I va,V I st] 59)) BG.out)
     have KG:=AS ((pB F BE.out).andBelow BG.out)
     have HLT:=AS (qA (eB HM.out.1) (qA (eB HM.out.2.1) (eB HM.out.2.2)))
     generalize ((w.alloc (O #[V I nd,V I nu,V I bl,aA false,V I ov,V I va,V I st] 59)).drewN n1).drewN nq=Wg at BG GX GB GV GC KG ⊢
     clear b0 b1 b2 d0_ d1_ d2_ d3_ d4_ d5_ d6_ lkv lkc h1 v1 c1 g1 g2 g3
     obtain⟨st1,es1,ck1,hr1,hst⟩:=VC.out.2.2.1.entry (w:=Wg.drew) GC.out under31 under3 (fun u=>zero3 u) nd
     rw[VC.out.2.2.2 nd] at hr1
     simp only[goInt] at hr1
     have M1:=AS (show(aB Wg.drew bc (.map es1 ck1)).heap[bc]?=M (.map es1 ck1) from set_at (show Wg.drew.heap[bc]?=M (.map ec cc) from GC.out) _)
     obtain⟨es2,ck2,hr2,hi2⟩:=hst _ (V I nu) M1.out
     try simp only[goInt] at hr2
     have I2:=AS hi2
     have hne:b≠bc:=HH.out.2.1
     have hnx:w.heap.size≠bc:=fun e=>by have:=HLT.out.2.2;omega
     have hnb:w.heap.size≠b:=fun e=>by have:=HLT.out.1;omega
     have X1B:=AS ((set_far (show Wg.drew.heap[bc]?=M (.map ec cc) from GC.out) (.map es1 ck1) hne).trans GB.out)
     have X1X:=AS ((set_far (show Wg.drew.heap[bc]?=M (.map ec cc) from GC.out) (.map es1 ck1) hnx).trans GX.out)
     have X2B:=AS ((set_far M1.out (.map es2 ck2) hne).trans X1B.out)
     have X2X:=AS ((set_far M1.out (.map es2 ck2) hnx).trans X1X.out)
     have M2:=AS (set_at M1.out (.map es2 ck2))
     have X3B:=AS (mA X2B.out 2 (V I st))
     have X3X:=AS ((Below.heap_setCell _ ⟨b,2,U⟩ (V I st) _ hnb).trans X2X.out)
     have S0:=AS (show Wg.drew.cell? ⟨b,1,U⟩=M (.map (M bc))/\Wg.drew.cell? ⟨w.heap.size,0,U⟩=M (V I nd)/\Wg.drew.cell? ⟨w.heap.size,1,U⟩=M (V I nu)/\Wg.drew.cell? ⟨w.heap.size,6,U⟩=M (V I st) from⟨cw GB.out 1,cw GX.out 0,cw GX.out 1,cw GX.out 6⟩)
     have S1:=AS (show(aB Wg.drew bc (.map es1 ck1)).cell? ⟨b,1,U⟩=M (.map (M bc))/\(aB Wg.drew bc (.map es1 ck1)).cell? ⟨w.heap.size,0,U⟩=M (V I nd)/\(aB Wg.drew bc (.map es1 ck1)).cell? ⟨w.heap.size,1,U⟩=M (V I nu)/\(aB Wg.drew bc (.map es1 ck1)).cell? ⟨w.heap.size,6,U⟩=M (V I st) from⟨cw X1B.out 1,cw X1X.out 0,cw X1X.out 1,cw X1X.out 6⟩)
     have S2:=AS (show(aB (aB Wg.drew bc (.map es1 ck1)) bc (.map es2 ck2)).cell? ⟨b,1,U⟩=M (.map (M bc))/\(aB (aB Wg.drew bc (.map es1 ck1)) bc (.map es2 ck2)).cell? ⟨w.heap.size,0,U⟩=M (V I nd)/\(aB (aB Wg.drew bc (.map es1 ck1)) bc (.map es2 ck2)).cell? ⟨w.heap.size,1,U⟩=M (V I nu)/\(aB (aB Wg.drew bc (.map es1 ck1)) bc (.map es2 ck2)).cell? ⟨w.heap.size,6,U⟩=M (V I st) from⟨cw X2B.out 1,cw X2X.out 0,cw X2X.out 1,cw X2X.out 6⟩)
     have S3:=AS (show((aB (aB Wg.drew bc (.map es1 ck1)) bc (.map es2 ck2)).setCell ⟨b,2,U⟩ (V I st)).cell? ⟨b,1,U⟩=M (.map (M bc))/\((aB (aB Wg.drew bc (.map es1 ck1)) bc (.map es2 ck2)).setCell ⟨b,2,U⟩ (V I st)).cell? ⟨w.heap.size,0,U⟩=M (V I nd)/\((aB (aB Wg.drew bc (.map es1 ck1)) bc (.map es2 ck2)).setCell ⟨b,2,U⟩ (V I st)).cell? ⟨w.heap.size,1,U⟩=M (V I nu)/\((aB (aB Wg.drew bc (.map es1 ck1)) bc (.map es2 ck2)).setCell ⟨b,2,U⟩ (V I st)).cell? ⟨w.heap.size,6,U⟩=M (V I st) from⟨cw X3B.out 1,cw X3X.out 0,cw X3X.out 1,cw X3X.out 6⟩)
     have k2_:=cw X2B.out 2 (v:=V I r.step)
     have kz_:=jA X2B.out 2
     clear hi2 hst hne hnx hnb
     go_region_held3 (fun x=>x.cell? ⟨b,1,U⟩=M (.map (M bc))/\x.cell? ⟨w.heap.size,0,U⟩=M (V I nd)/\x.cell? ⟨w.heap.size,1,U⟩=M (V I nu)/\x.cell? ⟨w.heap.size,6,U⟩=M (V I st)) ((with_reducible first | exact S0.out | exact S1.out | exact S2.out | exact S3.out)) (fail)
     all_goals
      have hbv:b≠bv:=HH.out.1
      have hbc:b≠bc:=HH.out.2.1
      have hvc:bv≠bc:=HH.out.2.2.1
      have hxv:w.heap.size≠bv:=fun e=>by have:=HLT.out.2.1;omega
      have X3V:=AS (show((aB (aB Wg.drew bc (.map es1 ck1)) bc (.map es2 ck2)).setCell ⟨b,2,U⟩ (V I st)).drew.heap[bv]?=M (.map ev cv_) from(Below.heap_setCell _ ⟨b,2,U⟩ (V I st) _ hbv.symm).trans ((set_far M1.out (.map es2 ck2) hvc).trans ((set_far (show Wg.drew.heap[bc]?=M (.map ec cc) from GC.out) (.map es1 ck1) hvc).trans GV.out)))
      have X3C:=AS (show((aB (aB Wg.drew bc (.map es1 ck1)) bc (.map es2 ck2)).setCell ⟨b,2,U⟩ (V I st)).drew.heap[bc]?=M (.map es2 ck2) from(Below.heap_setCell _ ⟨b,2,U⟩ (V I st) _ hbc.symm).trans M2.out)
      obtain⟨es3,ck3,hr3,hi3⟩:=VC.out.1.put (P:=dA) X3V.out under158 under3 bl (V I (r.val bl))
      have I3:=AS hi3
      have X4B:=AS ((set_far X3V.out (.map es3 ck3) hbv).trans X3B.out)
      have X4X:=AS ((set_far X3V.out (.map es3 ck3) hxv).trans X3X.out)
      have X4C:=AS ((set_far X3V.out (.map es3 ck3) hvc.symm).trans X3C.out)
      have X4V:=AS (set_at X3V.out (.map es3 ck3))
      have T0:=AS (show((aB (aB Wg.drew bc (.map es1 ck1)) bc (.map es2 ck2)).setCell ⟨b,2,U⟩ (V I st)).drew.cell? ⟨b,0,U⟩=M (.map (M bv))/\((aB (aB Wg.drew bc (.map es1 ck1)) bc (.map es2 ck2)).setCell ⟨b,2,U⟩ (V I st)).drew.cell? ⟨w.heap.size,2,U⟩=M (V I bl) from⟨cw X3B.out 0,cw X3X.out 2⟩)
      have T1:=AS (show(aB ((aB (aB Wg.drew bc (.map es1 ck1)) bc (.map es2 ck2)).setCell ⟨b,2,U⟩ (V I st)).drew bv (.map es3 ck3)).cell? ⟨b,0,U⟩=M (.map (M bv))/\(aB ((aB (aB Wg.drew bc (.map es1 ck1)) bc (.map es2 ck2)).setCell ⟨b,2,U⟩ (V I st)).drew bv (.map es3 ck3)).cell? ⟨w.heap.size,2,U⟩=M (V I bl) from⟨cw X4B.out 0,cw X4X.out 2⟩)
      clear hi3 hbv hbc hvc hxv hr1 hr2 k2_ kz_
      go_upto_region 7 with fail
      go_region_held3 (fun x=>x.cell? ⟨b,0,U⟩=M (.map (M bv))/\x.cell? ⟨w.heap.size,2,U⟩=M (V I bl)) ((with_reducible first | exact T0.out | exact T1.out)) (fail)
      all_goals
       go_wp2
       go_ret
       rw[HRR.out]
       refine⟨rfl,⟨bv,bc,X4B.out,⟨es3,ck3,_,X4V.out,I3.out,fun k=>?_⟩,⟨es2,ck2,_,X4C.out,I2.out,fun k=>?_⟩,HH.out.1,HH.out.2.1,HH.out.2.2.1,.inl HH.out.2.2.2.1,.inl HH.out.2.2.2.2.1,.inl HH.out.2.2.2.2.2⟩,KS.block (sB (KS.set (KS.block (KS.block (sB KG.out) (.inl HH.out.2.2.2.2.2) _) (.inl HH.out.2.2.2.2.2) _) (.inl HH.out.2.2.2.1) _ _)) (.inl HH.out.2.2.2.2.1) _⟩
       ·show(fput fv bl _ k).getD _=V I (upd r.val bl _ k)
        unfold fput upd
        by_cases q:k=bl
        ·rw[if_pos q,if_pos q];rfl
        ·rw[if_neg q,if_neg q];exact VC.out.2.1 k
       ·show(fput fc nd _ k).getD _=V I (upd r.cnt nd _ k)
        unfold fput upd
        by_cases q:k=nd
        ·rw[if_pos q,if_pos q];rfl
        ·rw[if_neg q,if_neg q];exact VC.out.2.2.2 k
 ·have hwt:=WT.out
  simp only[vA,if_false,if_true] at hwt
  subst hwt
  clear WT
  go_upto_region 4 with fail
  by_cases q1:nu=wrap64 (r.cnt nd+1)
  case neg =>
   have hr:=DO.out.trans (if_pos (.inl q1))
   have HRR:=AS hr
   have g1:(nu != wrap64 (r.cnt nd+1))=true:=by simp[q1]
   clear q1 hr
   go_quiet (fail)
   go_wp2
   go_ret
   rw[HRR.out]
   exact⟨rfl,NO.out _ (by repeat (with_reducible first | exact fA _ _ | refine bdrewN ?_ _))⟩
  case pos =>
   have g1:(nu != wrap64 (r.cnt nd+1))=false:=by simp[q1]
   by_cases q2:st < r.step
   case pos =>
    have hr:=DO.out.trans (if_pos (.inr (.inl q2)))
    have HRR:=AS hr
    have g2:decide (st < r.step)=true:=decide_eq_true q2
    have HQ1:=AS q1
    clear q1 q2 hr
    go_quiet (fail)
    go_wp2
    go_ret
    rw[HRR.out]
    exact⟨rfl,NO.out _ (by repeat (with_reducible first | exact fA _ _ | refine bdrewN ?_ _))⟩
   case neg =>
    have g2:decide (st < r.step)=false:=decide_eq_false q2
    by_cases q3:va=wt
    case neg =>
     have hr:=DO.out.trans (if_pos (.inr (.inr q3)))
     have HRR:=AS hr
     have g3:(va != wt)=true:=by simp[q3]
     have HQ:=AS (qA q1 (qA q2 q3))
     clear q1 q2 q3 hr
     go_quiet (fail)
     go_wp2
     go_ret
     rw[HRR.out]
     exact⟨rfl,NO.out _ (by repeat (with_reducible first | exact fA _ _ | refine bdrewN ?_ _))⟩
    case pos =>
     have hr:=DO.out.trans (if_neg (by rintro(h | h | h);exact h q1;exact q2 h;exact h q3))
     have HRR:=AS hr
     have g3:(va != wt)=false:=by simp[q3]
     have HQ:=AS (qA q1 (qA q2 q3))
     clear q1 q2 q3 hr
     go_quiet (fail)
     go_upto_region 6 with fail
     have BG:=AS (show Below (w.alloc (O #[V I nd,V I nu,V I bl,aA true,V I wt,V I va,V I st] 59)).heap.size (w.alloc (O #[V I nd,V I nu,V I bl,aA true,V I wt,V I va,V I st] 59)) (((w.alloc (O #[V I nd,V I nu,V I bl,aA true,V I wt,V I va,V I st] 59)).drewN n1).drewN nq) from bdrewN (bdrewN (fA _ _) _) _)
     have GX:=AS (kA BX.out BG.out)
     have GB:=AS (kA (lA HM.out.1 (O #[V I nd,V I nu,V I bl,aA true,V I wt,V I va,V I st] 59)) BG.out)
     have GV:=AS (kA (lA HM.out.2.1 (O #[V I nd,V I nu,V I bl,aA true,V I wt,V I va,V I st] 59)) BG.out)
     have GC:=AS (kA (lA HM.out.2.2 (O #[V I nd,V I nu,V I bl,aA true,V I wt,V I va,V I st] 59)) BG.out)
     have KG:=AS ((pB F BE.out).andBelow BG.out)
     have HLT:=AS (qA (eB HM.out.1) (qA (eB HM.out.2.1) (eB HM.out.2.2)))
     generalize ((w.alloc (O #[V I nd,V I nu,V I bl,aA true,V I wt,V I va,V I st] 59)).drewN n1).drewN nq=Wg at BG GX GB GV GC KG ⊢
     clear b0 b1 b2 d0_ d1_ d2_ d3_ d4_ d5_ d6_ lkv lkc h1 v1 c1 g1 g2 g3
     obtain⟨st1,es1,ck1,hr1,hst⟩:=VC.out.2.2.1.entry (w:=Wg.drew) GC.out under31 under3 (fun u=>zero3 u) nd
     rw[VC.out.2.2.2 nd] at hr1
     simp only[goInt] at hr1
     have M1:=AS (show(aB Wg.drew bc (.map es1 ck1)).heap[bc]?=M (.map es1 ck1) from set_at (show Wg.drew.heap[bc]?=M (.map ec cc) from GC.out) _)
     obtain⟨es2,ck2,hr2,hi2⟩:=hst _ (V I nu) M1.out
     try simp only[goInt] at hr2
     have I2:=AS hi2
     have hne:b≠bc:=HH.out.2.1
     have hnx:w.heap.size≠bc:=fun e=>by have:=HLT.out.2.2;omega
     have hnb:w.heap.size≠b:=fun e=>by have:=HLT.out.1;omega
     have X1B:=AS ((set_far (show Wg.drew.heap[bc]?=M (.map ec cc) from GC.out) (.map es1 ck1) hne).trans GB.out)
     have X1X:=AS ((set_far (show Wg.drew.heap[bc]?=M (.map ec cc) from GC.out) (.map es1 ck1) hnx).trans GX.out)
     have X2B:=AS ((set_far M1.out (.map es2 ck2) hne).trans X1B.out)
     have X2X:=AS ((set_far M1.out (.map es2 ck2) hnx).trans X1X.out)
     have M2:=AS (set_at M1.out (.map es2 ck2))
     have X3B:=AS (mA X2B.out 2 (V I st))
     have X3X:=AS ((Below.heap_setCell _ ⟨b,2,U⟩ (V I st) _ hnb).trans X2X.out)
     have S0:=AS (show Wg.drew.cell? ⟨b,1,U⟩=M (.map (M bc))/\Wg.drew.cell? ⟨w.heap.size,0,U⟩=M (V I nd)/\Wg.drew.cell? ⟨w.heap.size,1,U⟩=M (V I nu)/\Wg.drew.cell? ⟨w.heap.size,6,U⟩=M (V I st) from⟨cw GB.out 1,cw GX.out 0,cw GX.out 1,cw GX.out 6⟩)
     have S1:=AS (show(aB Wg.drew bc (.map es1 ck1)).cell? ⟨b,1,U⟩=M (.map (M bc))/\(aB Wg.drew bc (.map es1 ck1)).cell? ⟨w.heap.size,0,U⟩=M (V I nd)/\(aB Wg.drew bc (.map es1 ck1)).cell? ⟨w.heap.size,1,U⟩=M (V I nu)/\(aB Wg.drew bc (.map es1 ck1)).cell? ⟨w.heap.size,6,U⟩=M (V I st) from⟨cw X1B.out 1,cw X1X.out 0,cw X1X.out 1,cw X1X.out 6⟩)
     have S2:=AS (show(aB (aB Wg.drew bc (.map es1 ck1)) bc (.map es2 ck2)).cell? ⟨b,1,U⟩=M (.map (M bc))/\(aB (aB Wg.drew bc (.map es1 ck1)) bc (.map es2 ck2)).cell? ⟨w.heap.size,0,U⟩=M (V I nd)/\(aB (aB Wg.drew bc (.map es1 ck1)) bc (.map es2 ck2)).cell? ⟨w.heap.size,1,U⟩=M (V I nu)/\(aB (aB Wg.drew bc (.map es1 ck1)) bc (.map es2 ck2)).cell? ⟨w.heap.size,6,U⟩=M (V I st) from⟨cw X2B.out 1,cw X2X.out 0,cw X2X.out 1,cw X2X.out 6⟩)
     have S3:=AS (show((aB (aB Wg.drew bc (.map es1 ck1)) bc (.map es2 ck2)).setCell ⟨b,2,U⟩ (V I st)).cell? ⟨b,1,U⟩=M (.map (M bc))/\((aB (aB Wg.drew bc (.map es1 ck1)) bc (.map es2 ck2)).setCell ⟨b,2,U⟩ (V I st)).cell? ⟨w.heap.size,0,U⟩=M (V I nd)/\((aB (aB Wg.drew bc (.map es1 ck1)) bc (.map es2 ck2)).setCell ⟨b,2,U⟩ (V I st)).cell? ⟨w.heap.size,1,U⟩=M (V I nu)/\((aB (aB Wg.drew bc (.map es1 ck1)) bc (.map es2 ck2)).setCell ⟨b,2,U⟩ (V I st)).cell? ⟨w.heap.size,6,U⟩=M (V I st) from⟨cw X3B.out 1,cw X3X.out 0,cw X3X.out 1,cw X3X.out 6⟩)
     have k2_:=cw X2B.out 2 (v:=V I r.step)
     have kz_:=jA X2B.out 2
     clear hi2 hst hne hnx hnb
     go_region_held3 (fun x=>x.cell? ⟨b,1,U⟩=M (.map (M bc))/\x.cell? ⟨w.heap.size,0,U⟩=M (V I nd)/\x.cell? ⟨w.heap.size,1,U⟩=M (V I nu)/\x.cell? ⟨w.heap.size,6,U⟩=M (V I st)) ((with_reducible first | exact S0.out | exact S1.out | exact S2.out | exact S3.out)) (fail)
     all_goals
      have hbv:b≠bv:=HH.out.1
      have hbc:b≠bc:=HH.out.2.1
      have hvc:bv≠bc:=HH.out.2.2.1
      have hxv:w.heap.size≠bv:=fun e=>by have:=HLT.out.2.1;omega
      have X3V:=AS (show((aB (aB Wg.drew bc (.map es1 ck1)) bc (.map es2 ck2)).setCell ⟨b,2,U⟩ (V I st)).drew.heap[bv]?=M (.map ev cv_) from(Below.heap_setCell _ ⟨b,2,U⟩ (V I st) _ hbv.symm).trans ((set_far M1.out (.map es2 ck2) hvc).trans ((set_far (show Wg.drew.heap[bc]?=M (.map ec cc) from GC.out) (.map es1 ck1) hvc).trans GV.out)))
      have X3C:=AS (show((aB (aB Wg.drew bc (.map es1 ck1)) bc (.map es2 ck2)).setCell ⟨b,2,U⟩ (V I st)).drew.heap[bc]?=M (.map es2 ck2) from(Below.heap_setCell _ ⟨b,2,U⟩ (V I st) _ hbc.symm).trans M2.out)
      obtain⟨es3,ck3,hr3,hi3⟩:=VC.out.1.put (P:=dA) X3V.out under158 under3 bl (V I (wt))
      have I3:=AS hi3
      have X4B:=AS ((set_far X3V.out (.map es3 ck3) hbv).trans X3B.out)
      have X4X:=AS ((set_far X3V.out (.map es3 ck3) hxv).trans X3X.out)
      have X4C:=AS ((set_far X3V.out (.map es3 ck3) hvc.symm).trans X3C.out)
      have X4V:=AS (set_at X3V.out (.map es3 ck3))
      have T0:=AS (show((aB (aB Wg.drew bc (.map es1 ck1)) bc (.map es2 ck2)).setCell ⟨b,2,U⟩ (V I st)).drew.cell? ⟨b,0,U⟩=M (.map (M bv))/\((aB (aB Wg.drew bc (.map es1 ck1)) bc (.map es2 ck2)).setCell ⟨b,2,U⟩ (V I st)).drew.cell? ⟨w.heap.size,2,U⟩=M (V I bl) from⟨cw X3B.out 0,cw X3X.out 2⟩)
      have T1:=AS (show(aB ((aB (aB Wg.drew bc (.map es1 ck1)) bc (.map es2 ck2)).setCell ⟨b,2,U⟩ (V I st)).drew bv (.map es3 ck3)).cell? ⟨b,0,U⟩=M (.map (M bv))/\(aB ((aB (aB Wg.drew bc (.map es1 ck1)) bc (.map es2 ck2)).setCell ⟨b,2,U⟩ (V I st)).drew bv (.map es3 ck3)).cell? ⟨w.heap.size,2,U⟩=M (V I bl) from⟨cw X4B.out 0,cw X4X.out 2⟩)
      clear hi3 hbv hbc hvc hxv hr1 hr2 k2_ kz_
      go_upto_region 7 with fail
      go_region_held3 (fun x=>x.cell? ⟨b,0,U⟩=M (.map (M bv))/\x.cell? ⟨w.heap.size,2,U⟩=M (V I bl)) ((with_reducible first | exact T0.out | exact T1.out)) (fail)
      all_goals
       go_wp2
       go_ret
       rw[HRR.out]
       refine⟨rfl,⟨bv,bc,X4B.out,⟨es3,ck3,_,X4V.out,I3.out,fun k=>?_⟩,⟨es2,ck2,_,X4C.out,I2.out,fun k=>?_⟩,HH.out.1,HH.out.2.1,HH.out.2.2.1,.inl HH.out.2.2.2.1,.inl HH.out.2.2.2.2.1,.inl HH.out.2.2.2.2.2⟩,KS.block (sB (KS.set (KS.block (KS.block (sB KG.out) (.inl HH.out.2.2.2.2.2) _) (.inl HH.out.2.2.2.2.2) _) (.inl HH.out.2.2.2.1) _ _)) (.inl HH.out.2.2.2.2.1) _⟩
       ·show(fput fv bl _ k).getD _=V I (upd r.val bl _ k)
        unfold fput upd
        by_cases q:k=bl
        ·rw[if_pos q,if_pos q];rfl
        ·rw[if_neg q,if_neg q];exact VC.out.2.1 k
       ·show(fput fc nd _ k).getD _=V I (upd r.cnt nd _ k)
        unfold fput upd
        by_cases q:k=nd
        ·rw[if_pos q,if_pos q];rfl
        ·rw[if_neg q,if_neg q];exact VC.out.2.2.2 k
def nextS (s:S.World) (d:Drw):Ent×Bool:=if 0 < s.way.length then (⟨2,0,d.x,d.y,d.z⟩,true) else if s.nodes.any (·.cpu.busy) then (⟨4,0,d.x,d.y,d.z⟩,true) else (ent0,false)
theorem any_no {ns:List S.Node} (h:∀ j:Nat,j < ns.length->(ns.getD j (S.Node.new j)).cpu.busy=false):ns.any (·.cpu.busy)=false:=by
 rw[List.any_eq_false]
 intro n hn
 obtain⟨j,hj,rfl⟩:=List.getElem_of_mem hn
 have:=h j hj
 rw[cB,dB hj] at this
 simpa using this
theorem any_yes {ns:List S.Node} {i:Nat} (hi:i < ns.length) (h:(ns.getD i (S.Node.new i)).cpu.busy=true):ns.any (·.cpu.busy)=true:=by
 rw[List.any_eq_true]
 exact⟨_,getD_mem _ hi,h⟩
theorem next_any {s:S.World} {Ap Ah Af:Option Addr} {cp nh ch cf:Nat} {ps:List PlaceR} {B:Nat} {w:cA} (hS:ShotV s Ap Ah Af ps.length cp nh ch s.way.length cf ps B w) (d0 d1 d2:Int):bB dA 70 #[.agg #[V I s.steps,V I s.ticks,J Ap ps.length cp,J Ah nh ch,J Af s.way.length cf],.agg #[V I d0,V I d1,V I d2]] w (RV (.tuple #[entV (nextS s ⟨d0,d1,d2⟩).1,aA (nextS s ⟨d0,d1,d2⟩).2]) w):=by
 have HS:=AS hS
 have HNP:=AS hS.2.2.1
 have W4:=AS (eA (eA (eA (eA (fA w.heap.size w) (O #[V I s.steps,V I s.ticks,J Ap ps.length cp,J Ah nh ch,J Af s.way.length cf] 41)) (O #[V I d0,V I d1,V I d2] 74)) (O #[V I 0,V I 0,V I 0,V I 0,V I 0] 33)) (O #[V I 2,V I 0,V I d0,V I d1,V I d2] 33))
 have BQ:=AS (show((((w.alloc (O #[V I s.steps,V I s.ticks,J Ap ps.length cp,J Ah nh ch,J Af s.way.length cf] 41)).alloc (O #[V I d0,V I d1,V I d2] 74)).alloc (O #[V I 0,V I 0,V I 0,V I 0,V I 0] 33)).alloc (O #[V I 2,V I 0,V I d0,V I d1,V I d2] 33)).heap[w.heap.size]?=M (O #[V I s.steps,V I s.ticks,J Ap ps.length cp,J Ah nh ch,J Af s.way.length cf] 41 (0,0)) from lA (lA (lA (nA w _) _) _) _)
 have BT:=AS (show((((w.alloc (O #[V I s.steps,V I s.ticks,J Ap ps.length cp,J Ah nh ch,J Af s.way.length cf] 41)).alloc (O #[V I d0,V I d1,V I d2] 74)).alloc (O #[V I 0,V I 0,V I 0,V I 0,V I 0] 33)).alloc (O #[V I 2,V I 0,V I d0,V I d1,V I d2] 33)).heap[w.heap.size+1+1]?=M (O #[V I 0,V I 0,V I 0,V I 0,V I 0] 33 (0,0)) from lA (blk_newE _ _ (by simp only[rA])) _)
 have BU:=AS (show((((w.alloc (O #[V I s.steps,V I s.ticks,J Ap ps.length cp,J Ah nh ch,J Af s.way.length cf] 41)).alloc (O #[V I d0,V I d1,V I d2] 74)).alloc (O #[V I 0,V I 0,V I 0,V I 0,V I 0] 33)).alloc (O #[V I 2,V I 0,V I d0,V I d1,V I d2] 33)).heap[w.heap.size+1+1+1]?=M (O #[V I 2,V I 0,V I d0,V I d1,V I d2] 33 (0,0)) from blk_newE _ _ (by simp only[rA]))
 have SZ:=AS (show((((w.alloc (O #[V I s.steps,V I s.ticks,J Ap ps.length cp,J Ah nh ch,J Af s.way.length cf] 41)).alloc (O #[V I d0,V I d1,V I d2] 74)).alloc (O #[V I 0,V I 0,V I 0,V I 0,V I 0] 33)).alloc (O #[V I 2,V I 0,V I d0,V I d1,V I d2] 33)).heap.size=w.heap.size+4 from by simp only[rA])
 have NXT:=AS (show nextS s ⟨d0,d1,d2⟩=(if 0 < s.way.length then (⟨2,0,d0,d1,d2⟩,true) else if s.nodes.any (·.cpu.busy) then (⟨4,0,d0,d1,d2⟩,true) else (ent0,false)) from rfl)
 generalize hn:nextS s ⟨d0,d1,d2⟩=NX at *
 clear hn hS
 go_enter Tryz.func70,Tryz.ntmps70
 go_upto_region 2 with fail
 generalize ((((w.alloc (O #[V I s.steps,V I s.ticks,J Ap ps.length cp,J Ah nh ch,J Af s.way.length cf] 41)).alloc (O #[V I d0,V I d1,V I d2] 74)).alloc (O #[V I 0,V I 0,V I 0,V I 0,V I 0] 33)).alloc (O #[V I 2,V I 0,V I d0,V I d1,V I d2] 33))=W at W4 BQ BT BU SZ ⊢
 have s0_:=cw BQ.out 0 (v:=V I s.steps)
 have s1_:=cw BQ.out 1 (v:=V I s.ticks)
 have s2_:=cw BQ.out 2 (v:=J Ap ps.length cp)
 have s3_:=cw BQ.out 3 (v:=J Ah nh ch)
 have s4_:=cw BQ.out 4 (v:=J Af s.way.length cf)
 by_cases hw:0 < s.way.length
 ·have NR:=AS (NXT.out.trans (if_pos hw))
  have hd:decide ((0:Int) < (s.way.length:Int))=true:=by simp;omega
  have u0_:=cw BU.out 0 (v:=V I 2)
  have u1_:=cw BU.out 1 (v:=V I 0)
  have u2_:=cw BU.out 2 (v:=V I d0)
  have u3_:=cw BU.out 3 (v:=V I d1)
  have u4_:=cw BU.out 4 (v:=V I d2)
  have t0_:=cw BT.out 0 (v:=V I 0)
  have t1_:=cw BT.out 1 (v:=V I 0)
  have t2_:=cw BT.out 2 (v:=V I 0)
  have t3_:=cw BT.out 3 (v:=V I 0)
  have t4_:=cw BT.out 4 (v:=V I 0)
  have z0_:=jA BT.out 0
  have z1_:=jA BT.out 1
  have z2_:=jA BT.out 2
  have z3_:=jA BT.out 3
  have z4_:=jA BT.out 4
  go_wp2
  have R5:=AS (show((((((W).setCell ⟨w.heap.size+1+1,0,U⟩ (V I 2)).setCell ⟨w.heap.size+1+1,1,U⟩ (V I 0)).setCell ⟨w.heap.size+1+1,2,U⟩ (V I d0)).setCell ⟨w.heap.size+1+1,3,U⟩ (V I d1)).setCell ⟨w.heap.size+1+1,4,U⟩ (V I d2)).heap[w.heap.size+1+1]?=M (O #[V I 2,V I 0,V I d0,V I d1,V I d2] 33 (0,0)) from(by
   have q1:=mA BT.out 0 (V I 2)
   have q2:=mA q1 1 (V I 0)
   have q3:=mA q2 2 (V I d0)
   have q4:=mA q3 3 (V I d1)
   have q5:=mA q4 4 (V I d2)
   exact blk_as q5 zB))
  have K5:=AS (show KS (fun y=>y=w.heap.size+1+1) W ((((((W).setCell ⟨w.heap.size+1+1,0,U⟩ (V I 2)).setCell ⟨w.heap.size+1+1,1,U⟩ (V I 0)).setCell ⟨w.heap.size+1+1,2,U⟩ (V I d0)).setCell ⟨w.heap.size+1+1,3,U⟩ (V I d1)).setCell ⟨w.heap.size+1+1,4,U⟩ (V I d2)) from(by repeat (with_reducible first | refine tB ?_ _ _ | exact qB _ _)))
  generalize (((((W).setCell ⟨w.heap.size+1+1,0,U⟩ (V I 2)).setCell ⟨w.heap.size+1+1,1,U⟩ (V I 0)).setCell ⟨w.heap.size+1+1,2,U⟩ (V I d0)).setCell ⟨w.heap.size+1+1,3,U⟩ (V I d1)).setCell ⟨w.heap.size+1+1,4,U⟩ (V I d2)=W5 at R5 K5 ⊢
  obtain⟨g0_,g1_,g2_,g3_,g4_⟩:=(show W5.cell? ⟨w.heap.size+1+1,0,U⟩=M (V I 2)/\W5.cell? ⟨w.heap.size+1+1,1,U⟩=M (V I 0)/\W5.cell? ⟨w.heap.size+1+1,2,U⟩=M (V I d0)/\W5.cell? ⟨w.heap.size+1+1,3,U⟩=M (V I d1)/\W5.cell? ⟨w.heap.size+1+1,4,U⟩=M (V I d2) from⟨cw R5.out 0,cw R5.out 1,cw R5.out 2,cw R5.out 3,cw R5.out 4⟩)
  refine yA (v:=.tuple #[entV (⟨2,0,d0,d1,d2⟩:Ent),aA true]) (by simp[results,Tryz.results70,go_sem,entV,g0_,g1_,g2_,g3_,g4_]) rfl ?_
  rw[NR.out]
  exact⟨rfl,W4.out.trans (K5.out.toBelow (fun y hy=>by have hy':y=w.heap.size+1+1:=hy;omega) W4.out.size)⟩
 ·have NX2:=AS (NXT.out.trans (if_neg hw))
  have hd:decide ((0:Int) < (s.way.length:Int))=false:=decide_eq_false vB
  have HW0:=AS hw
  clear NXT
  go_wp2_with fail
  go_loopw [24] (fun v24 wr=>∃ i:Nat,v24=V I i/\i≤ps.length/\Aside0 ((∀ j:Nat,j < i->(s.nodes.getD j (S.Node.new j)).cpu.busy=false)/\Below W.heap.size W wr)) (fun v24 _=>ps.length+1 - (intOf v24).toNat)
  case atStart=>exact⟨0,rfl,vB,⟨fun j hj=>absurd hj vB,fA _ _⟩⟩
  case round =>
   obtain⟨i,rfl,hi,R⟩:=hrel
   by_cases hcc:i < ps.length
   ·have q0:(0:Int)≤(i:Int):=vB
    have q1:(i:Int) < (ps.length:Int):=vB
    obtain⟨gp,cpp,e,hc1,hc2,hgp,hcell⟩:=own_some HS.out.1 hcc
    have hps:(ps.length:Int)≤9223372036854775807:=vB
    clear hc1 hc2
    injection e with e1 e2 e3
    subst e1 e3
    have hok:=HS.out.2.2.2.1.ok i hcc
    have hpg:placeE.f (ps.getD i placeE.d)=placeC (ps.getD i placeE.d):=rfl
    rw[hpg] at hcell
    generalize ps.getD i placeE.d=pl at hcell hok
    generalize hnd:s.nodes.getD i (S.Node.new i)=nd at hok
    obtain⟨b1,b2,b3,b4⟩:=hok
    obtain⟨⟨ks1,-,-,hLo⟩,-⟩:=b3
    obtain⟨⟨ks2,-,-,hAo⟩,-⟩:=b4
    obtain⟨L1,lc,hvl,-⟩:=hLo.row
    obtain⟨L2,ac,hva,-⟩:=hAo.row
    obtain⟨ln,hln⟩:∃ n,pl.lines=J L1 n lc:=⟨_,hvl⟩
    obtain⟨an,han⟩:∃ n,pl.acts=J L2 n ac:=⟨_,hva⟩
    unfold placeC at hcell
    rw[hln,han,b1,b2] at hcell
    have HND:=AS hnd
    have BR:=AS (W4.out.trans (R.out.2.mono W4.out.size))
    have p0_:wr.cell? ⟨gp,i * 6+0,U⟩=M (J L1 ln lc):=((bcell BR.out).1 gp _ hgp).trans ((hcell 0 yB).trans rfl)
    have p1_:wr.cell? ⟨gp,i * 6+1,U⟩=M (aA nd.cpu.busy):=((bcell BR.out).1 gp _ hgp).trans ((hcell 1 yB).trans rfl)
    have p2_:wr.cell? ⟨gp,i * 6+2,U⟩=M (V I nd.cpu.op.block):=((bcell BR.out).1 gp _ hgp).trans ((hcell 2 yB).trans rfl)
    have p3_:wr.cell? ⟨gp,i * 6+3,U⟩=M (aA nd.cpu.op.write):=((bcell BR.out).1 gp _ hgp).trans ((hcell 3 yB).trans rfl)
    have p4_:wr.cell? ⟨gp,i * 6+4,U⟩=M (V I nd.cpu.op.value):=((bcell BR.out).1 gp _ hgp).trans ((hcell 4 yB).trans rfl)
    have p5_:wr.cell? ⟨gp,i * 6+5,U⟩=M (J L2 an ac):=((bcell BR.out).1 gp _ hgp).trans ((hcell 5 yB).trans rfl)
    have p0':wr.cell? ⟨gp,i * 6,U⟩=M (J L1 ln lc):=p0_
    clear hcell hLo hAo hvl hva hln han b1 b2 hnd hgp hpg
    have U1:=AS (kA BU.out R.out.2)
    have T1:=AS (kA BT.out R.out.2)
    cases hbz:nd.cpu.busy with
    | true =>
     have NR:=AS (NX2.out.trans (if_pos (any_yes (i:=i) (by have:=HNP.out;omega) (by rw[HND.out];exact hbz))))
     rw[hbz] at p1_
     have v0_:=cw U1.out 0 (v:=V I 2)
     have v1_:=cw U1.out 1 (v:=V I 0)
     have v2_:=cw U1.out 2 (v:=V I d0)
     have v3_:=cw U1.out 3 (v:=V I d1)
     have v4_:=cw U1.out 4 (v:=V I d2)
     have vz_:=jA U1.out 0
     have vv0_:(wr.alloc (O #[J L1 ln lc,aA true,V I nd.cpu.op.block,aA nd.cpu.op.write,V I nd.cpu.op.value,J L2 an ac] 53)).cell? ⟨w.heap.size+1+1+1,0,U⟩=M (V I 2):=cw (lA U1.out _) 0
     have vvz_:(wr.alloc (O #[J L1 ln lc,aA true,V I nd.cpu.op.block,aA nd.cpu.op.write,V I nd.cpu.op.value,J L2 an ac] 53)).frozen? ⟨w.heap.size+1+1+1,0,U⟩=false:=jA (lA U1.out _) 0
     clear hbz
     go_upto_region 9 with fail
     have hz4:=SZ.out
     have hzR:=R.out.2.size
     have U9:=AS (show((wr.alloc (O #[J L1 ln lc,aA true,V I nd.cpu.op.block,aA nd.cpu.op.write,V I nd.cpu.op.value,J L2 an ac] 53)).setCell ⟨w.heap.size+1+1+1,0,U⟩ (V I 4)).heap[w.heap.size+1+1+1]?=M (O #[V I 4,V I 0,V I d0,V I d1,V I d2] 33 (0,0)) from blk_as (mA (lA U1.out _) 0 (V I 4)) zB)
     have T9:=AS (show((wr.alloc (O #[J L1 ln lc,aA true,V I nd.cpu.op.block,aA nd.cpu.op.write,V I nd.cpu.op.value,J L2 an ac] 53)).setCell ⟨w.heap.size+1+1+1,0,U⟩ (V I 4)).heap[w.heap.size+1+1]?=M (O #[V I 0,V I 0,V I 0,V I 0,V I 0] 33 (0,0)) from(Below.heap_setCell _ ⟨w.heap.size+1+1+1,0,U⟩ _ _ (by show w.heap.size+1+1≠w.heap.size+1+1+1;omega)).trans (lA T1.out _))
     have B9:=AS (show Below w.heap.size w ((wr.alloc (O #[J L1 ln lc,aA true,V I nd.cpu.op.block,aA nd.cpu.op.write,V I nd.cpu.op.value,J L2 an ac] 53)).setCell ⟨w.heap.size+1+1+1,0,U⟩ (V I 4)) from oA (eA BR.out _) (by show w.heap.size≤w.heap.size+1+1+1;omega) _)
     generalize (wr.alloc (O #[J L1 ln lc,aA true,V I nd.cpu.op.block,aA nd.cpu.op.write,V I nd.cpu.op.value,J L2 an ac] 53)).setCell ⟨w.heap.size+1+1+1,0,U⟩ (V I 4)=W9 at U9 T9 B9 ⊢
     clear p0_ p0' p1_ p2_ p3_ p4_ p5_ v0_ v1_ v2_ v3_ v4_ vz_ vv0_ vvz_
     have u0_:=cw U9.out 0 (v:=V I 4)
     have u1_:=cw U9.out 1 (v:=V I 0)
     have u2_:=cw U9.out 2 (v:=V I d0)
     have u3_:=cw U9.out 3 (v:=V I d1)
     have u4_:=cw U9.out 4 (v:=V I d2)
     have t0_:=cw T9.out 0 (v:=V I 0)
     have t1_:=cw T9.out 1 (v:=V I 0)
     have t2_:=cw T9.out 2 (v:=V I 0)
     have t3_:=cw T9.out 3 (v:=V I 0)
     have t4_:=cw T9.out 4 (v:=V I 0)
     have z0_:=jA T9.out 0
     have z1_:=jA T9.out 1
     have z2_:=jA T9.out 2
     have z3_:=jA T9.out 3
     have z4_:=jA T9.out 4
     go_wp2
     have R5:=AS (show((((((W9).setCell ⟨w.heap.size+1+1,0,U⟩ (V I 4)).setCell ⟨w.heap.size+1+1,1,U⟩ (V I 0)).setCell ⟨w.heap.size+1+1,2,U⟩ (V I d0)).setCell ⟨w.heap.size+1+1,3,U⟩ (V I d1)).setCell ⟨w.heap.size+1+1,4,U⟩ (V I d2)).heap[w.heap.size+1+1]?=M (O #[V I 4,V I 0,V I d0,V I d1,V I d2] 33 (0,0)) from(by
      have q1:=mA T9.out 0 (V I 4)
      have q2:=mA q1 1 (V I 0)
      have q3:=mA q2 2 (V I d0)
      have q4:=mA q3 3 (V I d1)
      have q5:=mA q4 4 (V I d2)
      exact blk_as q5 zB))
     have K5:=AS (show KS (fun y=>y=w.heap.size+1+1) W9 ((((((W9).setCell ⟨w.heap.size+1+1,0,U⟩ (V I 4)).setCell ⟨w.heap.size+1+1,1,U⟩ (V I 0)).setCell ⟨w.heap.size+1+1,2,U⟩ (V I d0)).setCell ⟨w.heap.size+1+1,3,U⟩ (V I d1)).setCell ⟨w.heap.size+1+1,4,U⟩ (V I d2)) from(by repeat (with_reducible first | refine tB ?_ _ _ | exact qB _ _)))
     generalize (((((W9).setCell ⟨w.heap.size+1+1,0,U⟩ (V I 4)).setCell ⟨w.heap.size+1+1,1,U⟩ (V I 0)).setCell ⟨w.heap.size+1+1,2,U⟩ (V I d0)).setCell ⟨w.heap.size+1+1,3,U⟩ (V I d1)).setCell ⟨w.heap.size+1+1,4,U⟩ (V I d2)=W5 at R5 K5 ⊢
     obtain⟨g0_,g1_,g2_,g3_,g4_⟩:=(show W5.cell? ⟨w.heap.size+1+1,0,U⟩=M (V I 4)/\W5.cell? ⟨w.heap.size+1+1,1,U⟩=M (V I 0)/\W5.cell? ⟨w.heap.size+1+1,2,U⟩=M (V I d0)/\W5.cell? ⟨w.heap.size+1+1,3,U⟩=M (V I d1)/\W5.cell? ⟨w.heap.size+1+1,4,U⟩=M (V I d2) from⟨cw R5.out 0,cw R5.out 1,cw R5.out 2,cw R5.out 3,cw R5.out 4⟩)
     refine yA (v:=.tuple #[entV (⟨4,0,d0,d1,d2⟩:Ent),aA true]) (by simp[results,Tryz.results70,go_sem,entV,g0_,g1_,g2_,g3_,g4_]) rfl ?_
     rw[NR.out]
     exact⟨rfl,B9.out.trans (K5.out.toBelow (fun y hy=>by have hy':y=w.heap.size+1+1:=hy;omega) B9.out.size)⟩
    | false =>
     rw[hbz] at p1_
     have HBZ:=AS (show(s.nodes.getD i (S.Node.new i)).cpu.busy=false from by rw[HND.out];exact hbz)
     clear hbz
     go_wp2
     go_roundw
     case rel =>
      refine⟨i+1,by go_num,vB,⟨fun j hj=>?_,eA R.out.2 _⟩⟩
      by_cases e:j=i
      ·rw[e];exact HBZ.out
      ·exact R.out.1 j vB
     case measure=>simp[intOf];omega
   ·have hin:i=ps.length:=vB
    have RX:=AS (show(∀ j:Nat,j < s.nodes.length->(s.nodes.getD j (S.Node.new j)).cpu.busy=false)/\Below W.heap.size W wr from⟨fun j hj=>R.out.1 j (by have:=HNP.out;omega),R.out.2⟩)
    have NR:=AS (NX2.out.trans (if_neg (by rw[any_no RX.out.1];decide)))
    have T1:=AS (kA BT.out RX.out.2)
    have BR:=AS (W4.out.trans (RX.out.2.mono W4.out.size))
    have t0_:=cw T1.out 0 (v:=V I 0)
    have t1_:=cw T1.out 1 (v:=V I 0)
    have t2_:=cw T1.out 2 (v:=V I 0)
    have t3_:=cw T1.out 3 (v:=V I 0)
    have t4_:=cw T1.out 4 (v:=V I 0)
    have z0_:=jA T1.out 0
    have z1_:=jA T1.out 1
    have z2_:=jA T1.out 2
    have z3_:=jA T1.out 3
    have z4_:=jA T1.out 4
    subst hin
    go_wp2
    have R5:=AS (show((((((wr).setCell ⟨w.heap.size+1+1,0,U⟩ (V I 0)).setCell ⟨w.heap.size+1+1,1,U⟩ (V I 0)).setCell ⟨w.heap.size+1+1,2,U⟩ (V I 0)).setCell ⟨w.heap.size+1+1,3,U⟩ (V I 0)).setCell ⟨w.heap.size+1+1,4,U⟩ (V I 0)).heap[w.heap.size+1+1]?=M (O #[V I 0,V I 0,V I 0,V I 0,V I 0] 33 (0,0)) from(by
     have q1:=mA T1.out 0 (V I 0)
     have q2:=mA q1 1 (V I 0)
     have q3:=mA q2 2 (V I 0)
     have q4:=mA q3 3 (V I 0)
     have q5:=mA q4 4 (V I 0)
     exact blk_as q5 zB))
    have K5:=AS (show KS (fun y=>y=w.heap.size+1+1) wr ((((((wr).setCell ⟨w.heap.size+1+1,0,U⟩ (V I 0)).setCell ⟨w.heap.size+1+1,1,U⟩ (V I 0)).setCell ⟨w.heap.size+1+1,2,U⟩ (V I 0)).setCell ⟨w.heap.size+1+1,3,U⟩ (V I 0)).setCell ⟨w.heap.size+1+1,4,U⟩ (V I 0)) from(by repeat (with_reducible first | refine tB ?_ _ _ | exact qB _ _)))
    generalize (((((wr).setCell ⟨w.heap.size+1+1,0,U⟩ (V I 0)).setCell ⟨w.heap.size+1+1,1,U⟩ (V I 0)).setCell ⟨w.heap.size+1+1,2,U⟩ (V I 0)).setCell ⟨w.heap.size+1+1,3,U⟩ (V I 0)).setCell ⟨w.heap.size+1+1,4,U⟩ (V I 0)=W5 at R5 K5 ⊢
    obtain⟨g0_,g1_,g2_,g3_,g4_⟩:=(show W5.cell? ⟨w.heap.size+1+1,0,U⟩=M (V I 0)/\W5.cell? ⟨w.heap.size+1+1,1,U⟩=M (V I 0)/\W5.cell? ⟨w.heap.size+1+1,2,U⟩=M (V I 0)/\W5.cell? ⟨w.heap.size+1+1,3,U⟩=M (V I 0)/\W5.cell? ⟨w.heap.size+1+1,4,U⟩=M (V I 0) from⟨cw R5.out 0,cw R5.out 1,cw R5.out 2,cw R5.out 3,cw R5.out 4⟩)
    refine yA (v:=.tuple #[entV ent0,aA false]) (by simp[results,Tryz.results70,go_sem,entV,ent0,g0_,g1_,g2_,g3_,g4_]) rfl ?_
    rw[NR.out]
    exact⟨rfl,BR.out.trans (K5.out.toBelow (fun y hy=>by have hy':y=w.heap.size+1+1:=hy;omega) BR.out.size)⟩
end Go.Proofs.YtiebppkhaiofeaaGreat.K
