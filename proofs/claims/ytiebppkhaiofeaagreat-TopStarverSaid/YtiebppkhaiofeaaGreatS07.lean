/- Part of the proof of TopStarver: what functions of the program do. -/
import Derived.Test.YtiebppkhaiofeaaGreatS06
set_option maxHeartbeats 4000000
set_option maxRecDepth 100000
set_option linter.unusedVariables false
set_option linter.unusedSimpArgs false
namespace Go.Proofs.YtiebppkhaiofeaaGreat.K
open Go.RowKit Go.Proofs.YtiebppkhaiofeaaGreatW.PrintWords Go.Proofs.YtiebppkhaiofeaaGreat.S
attribute [local go_sem] World.cell?_alloc_some
def spOw (n:Int) (ow ho:Bool):Bool:=ow && ho && decide (0 < n)
def splN (hc n:Int) (ow ho:Bool):Int:=if ho && !spOw n ow ho then min n (wrap64 (hc - 1)) else n
theorem splitK_eq (hc:Int) (ho hh:Bool) (hd n:Int) (ow da:Bool):splitK ⟨hc,ho,hh,hd⟩ n ow da=splitM ⟨hc,ho,hh,hd⟩ (splN hc n ow ho) (spOw n ow ho) da:=by
 unfold splitK splN spOw
 by_cases h:0 < n <;> cases ow <;> cases ho <;> simp[h]
theorem split_any (hc:Int) (ho hh:Bool) (hd count:Int) (ow da:Bool) (w:Go.World):Calls Tryz.prog 147 #[.agg #[.int .i64 hc,.bool ho,.bool hh,.int .i64 hd],.int .i64 count,.bool ow,.bool da] w (RV (.tuple #[bunV (split ⟨hc,ho,hh,hd⟩ count ow da).1,bunV (split ⟨hc,ho,hh,hd⟩ count ow da).2]) w):=by
 have hm:(hc < 0/\max hc 0=0)∨(¬ hc < 0/\max hc 0=hc):=by omega
 have X4:=AS (show(((w.alloc (.cells #[.int .i64 hc,.bool ho,.bool hh,.int .i64 hd] 45)).alloc (.cells #[.int .i64 0,.bool false,.bool false,.int .i64 0] 45)).alloc (.cells #[.int .i64 0,.bool false,.bool false,.int .i64 0] 45)).heap[w.heap.size]?=some (.cells #[.int .i64 hc,.bool ho,.bool hh,.int .i64 hd] 45) from blk_alloc (blk_alloc (blk_new w _) _) _)
 have X8:=AS (show(((w.alloc (.cells #[.int .i64 hc,.bool ho,.bool hh,.int .i64 hd] 45)).alloc (.cells #[.int .i64 0,.bool false,.bool false,.int .i64 0] 45)).alloc (.cells #[.int .i64 0,.bool false,.bool false,.int .i64 0] 45)).heap[w.heap.size+1]?=some (.cells #[.int .i64 0,.bool false,.bool false,.int .i64 0] 45) from by have:=blk_alloc (blk_new (w.alloc (.cells #[.int .i64 hc,.bool ho,.bool hh,.int .i64 hd] 45)) (.cells #[.int .i64 0,.bool false,.bool false,.int .i64 0] 45)) (.cells #[.int .i64 0,.bool false,.bool false,.int .i64 0] 45);simpa using this)
 have X9:=AS (show(((w.alloc (.cells #[.int .i64 hc,.bool ho,.bool hh,.int .i64 hd] 45)).alloc (.cells #[.int .i64 0,.bool false,.bool false,.int .i64 0] 45)).alloc (.cells #[.int .i64 0,.bool false,.bool false,.int .i64 0] 45)).heap[w.heap.size+2]?=some (.cells #[.int .i64 0,.bool false,.bool false,.int .i64 0] 45) from by have:=blk_new ((w.alloc (.cells #[.int .i64 hc,.bool ho,.bool hh,.int .i64 hd] 45)).alloc (.cells #[.int .i64 0,.bool false,.bool false,.int .i64 0] 45)) (.cells #[.int .i64 0,.bool false,.bool false,.int .i64 0] 45);simpa using this)
 have BW:=AS (show Below w.heap.size w (((w.alloc (.cells #[.int .i64 hc,.bool ho,.bool hh,.int .i64 hd] 45)).alloc (.cells #[.int .i64 0,.bool false,.bool false,.int .i64 0] 45)).alloc (.cells #[.int .i64 0,.bool false,.bool false,.int .i64 0] 45)) from below_alloc (below_alloc (below_alloc (Below.refl _ _) _) _) _)
 rw[show split ⟨hc,ho,hh,hd⟩ count ow da=splitK ⟨hc,ho,hh,hd⟩ (clamp count 0 (max hc 0)) ow da from rfl,splitK_eq]
 generalize hn:clamp count 0 (max hc 0)=n
 generalize hn1:splN hc n ow ho=n1
 generalize ho1:spOw n ow ho=o1
 have HN:=AS hn
 have HN1:=AS hn1
 have HO1:=AS ho1
 have HM:=AS hm
 clear hm hn hn1 ho1
 go_enter Tryz.func147,Tryz.ntmps147
 go_upto_region 1 with fail
 generalize hW:(((w.alloc (.cells #[.int .i64 hc,.bool ho,.bool hh,.int .i64 hd] 45)).alloc (.cells #[.int .i64 0,.bool false,.bool false,.int .i64 0] 45)).alloc (.cells #[.int .i64 0,.bool false,.bool false,.int .i64 0] 45))=W at X4 X8 X9 BW ⊢
 clear hW
 have c0:=cw X4.out 0 (v:=.int .i64 hc)
 have c1:=cw X4.out 1 (v:=.bool ho)
 have c2:=cw X4.out 2 (v:=.bool hh)
 have c3:=cw X4.out 3 (v:=.int .i64 hd)
 go_cut [10] (fun v10 wx=>v10=.int .i64 n/\wx=W)
 case first =>
  have hm:=HM.out
  have hn:=HN.out
  rcases hm with ⟨hm1,hm⟩ | ⟨hm1,hm⟩
  all_goals
   rw[hm] at hn
   have HN2:=AS hn
   clear hn hm
   go_wp2_with fail
   refine(clamp_any _ _ _ _).mono ?_
   rintro e w1 ⟨rfl,rfl⟩
   rw[HN2.out]
   go_wp2_with fail
   go_meet
   exact⟨rfl,rfl⟩
 case rest =>
  obtain⟨rfl,rfl⟩:=hcut
  go_upto_region 2 with fail
  go_cut [2] (fun v2 wx=>v2=.bool o1/\wx=wc)
  case first =>
   have h1:=HO1.out
   have O2:∀ (b1 b2:Bool),spOw n b1 b2=(b1 && b2 && decide (0 < n)):=fun _ _=>rfl
   rw[O2] at h1
   have HX:=AS h1
   clear h1 O2
   cases ow <;> cases ho <;> (by_cases hn0:0 < n)
   all_goals
    go_wp2_with fail
    go_meet
    exact⟨by rw[<- HX.out];simp[*],rfl⟩
  case rest =>
   obtain⟨rfl,rfl⟩:=hcut
   go_upto_region 3 with fail
   go_cut [30] (fun v30 wx=>v30=.bool (ho && !o1)/\wx=wc)
   case first =>
    cases ho <;> cases o1
    all_goals
     go_wp2_with fail
     go_meet
     exact⟨rfl,rfl⟩
   case rest =>
   obtain⟨rfl,rfl⟩:=hcut
   generalize hg:(ho && !o1)=gd
   have HG:=AS hg
   clear hg
   go_upto_if 30 with fail
   go_cut [10] (fun v10 wx=>v10=.int .i64 n1/\wx=wc)
   case first =>
    have h1:=HN1.out
    have O2:splN hc n ow ho=if gd then min n (wrap64 (hc - 1)) else n:=by rw[<- HG.out,<- HO1.out];rfl
    rw[O2] at h1
    clear O2
    have hmin:(wrap64 (hc - 1) < n/\min n (wrap64 (hc - 1))=wrap64 (hc - 1))∨(¬ wrap64 (hc - 1) < n/\min n (wrap64 (hc - 1))=n):=by omega
    cases gd
    ·simp only[Bool.false_eq_true,if_false] at h1
     have H1:=AS h1
     clear h1 hmin
     go_wp2_with fail
     go_meet
     exact⟨by rw[<- H1.out],rfl⟩
    ·simp only[if_true] at h1
     rcases hmin with ⟨hq,hmin⟩ | ⟨hq,hmin⟩
     all_goals
      rw[hmin] at h1
      have H1:=AS h1
      clear h1 hmin
      go_wp2_with fail
      go_meet
      exact⟨by rw[<- H1.out],rfl⟩
   case rest =>
    clear HG
    obtain⟨rfl,rfl⟩:=hcut
    have p0:=cw X8.out 0 (v:=.int .i64 0)
    have p1:=cw X8.out 1 (v:=.bool false)
    have p2:=cw X8.out 2 (v:=.bool false)
    have p3:=cw X8.out 3 (v:=.int .i64 0)
    have pz0:=blk_frozen X8.out 0
    have pz1:=blk_frozen X8.out 1
    have pz2:=blk_frozen X8.out 2
    have pz3:=blk_frozen X8.out 3
    have q0:=cw X9.out 0 (v:=.int .i64 0)
    have q1:=cw X9.out 1 (v:=.bool false)
    have q2:=cw X9.out 2 (v:=.bool false)
    have q3:=cw X9.out 3 (v:=.int .i64 0)
    have qz0:=blk_frozen X9.out 0
    have qz1:=blk_frozen X9.out 1
    have qz2:=blk_frozen X9.out 2
    have qz3:=blk_frozen X9.out 3
    have FIN:=AS (show ∀ w2,Below wc.heap.size wc w2∨Keeps [w.heap.size+1,w.heap.size+2] wc w2->Below w.heap.size w w2 from by
     intro w2 h
     rcases h with h | h
     ·exact BW.out.trans (h.mono BW.out.size)
     ·exact BW.out.trans (h.toBelow (by intro x hx;simp at hx;omega) BW.out.size))
    by_cases h1:n1 < 1
    ·have HS:=AS (show splitM ⟨hc,ho,hh,hd⟩ n1 o1 da=(b0,⟨hc,ho,hh,hd⟩) from if_pos h1)
     go_upto_region 6 with fail
     all_goals
      try go_region
      all_goals
       go_wp2
       rw[HS.out]
       exact bodyPost_ret (v:=.tuple #[bunV b0,bunV ⟨hc,ho,hh,hd⟩]) (by simp[results,Tryz.results147,go_sem,bunV,b0,p0,q0,c0,p1,q1,c1,p2,q2,c2,p3,q3,c3]) rfl ⟨rfl,FIN.out _ (.inr (by repeat (with_reducible first | exact Keeps.refl _ _ | refine Keeps.set ?_ (.inl (by simp)) _ _ | apply Keeps.alloc | apply Keeps.drew)))⟩
    ·skip
     have HS1:=AS (show(splitM ⟨hc,ho,hh,hd⟩ n1 o1 da).1=S.valued n1 o1 (hh && (da || o1)) hd by simp[splitM,h1])
     have HS2:=AS (show(splitM ⟨hc,ho,hh,hd⟩ n1 o1 da).2=if n1 < hc then S.valued (wrap64 (hc - n1)) (ho && !o1) hh hd else b0 by simp[splitM,h1])
     generalize splitM ⟨hc,ho,hh,hd⟩ n1 o1 da=sp at *
     obtain⟨s1,s2⟩:=sp
     have hs1:s1=S.valued n1 o1 (hh && (da || o1)) hd:=HS1.out
     have HS3:=AS (show s2=if n1 < hc then S.valued (wrap64 (hc - n1)) (ho && !o1) hh hd else b0 from HS2.out)
     clear HS1 HS2
     subst hs1
     obtain⟨r0,r1,r2,r3⟩:=s2
     generalize ht2:(hh && (da || o1))=t2
     have HT2:=AS ht2
     clear ht2
     go_upto_region 7 with fail
     go_cut [10] (fun v10 wx=>v10=.int .i64 n1/\wx.heap[w.heap.size]?=some (.cells #[.int .i64 hc,.bool ho,.bool hh,.int .i64 hd] 45)/\wx.heap[w.heap.size+1]?=some (.cells #[.int .i64 n1,.bool o1,.bool t2,.int .i64 (if t2 then hd else 0)] 45)/\wx.heap[w.heap.size+2]?=some (.cells #[.int .i64 0,.bool false,.bool false,.int .i64 0] 45)/\Below w.heap.size w wx)
     case first =>
      have FINI:=AS (show ∀ w1,Below wc.heap.size wc w1->w1.heap[w.heap.size]?=some (.cells #[.int .i64 hc,.bool ho,.bool hh,.int .i64 hd] 45)/\w1.heap[w.heap.size+1]?=some (.cells #[.int .i64 0,.bool false,.bool false,.int .i64 0] 45)/\w1.heap[w.heap.size+2]?=some (.cells #[.int .i64 0,.bool false,.bool false,.int .i64 0] 45) from fun w1 hb=>⟨blk_below X4.out hb,blk_below X8.out hb,blk_below X9.out hb⟩)
      have HX:=AS (show t2=(hh && (da || o1)) from HT2.out.symm)
      clear HT2
      cases hh <;> cases da <;> cases o1
      all_goals
       have ht2:=HX.out
       simp only[Bool.false_and,Bool.true_and,Bool.or_false,Bool.or_true,Bool.false_or,Bool.true_or] at ht2
       subst ht2
       go_wp2_with fail
       refine(valued_any _ _ _ _ _).mono ?_
       rintro e w1 ⟨rfl,hw⟩
       have BB:=AS (show Below wc.heap.size wc w1 from by rw[<- hw];exact below_alloc (below_alloc (Below.refl _ _) _) _)
       clear hw
       have F1:=AS (FINI.out w1 BB.out)
       clear p0 q0 c0 pz0 qz0 p1 q1 c1 pz1 qz1 p2 q2 c2 pz2 qz2 p3 q3 c3 pz3 qz3
       have p0:=cw F1.out.2.1 0 (v:=.int .i64 0)
       have p1:=cw F1.out.2.1 1 (v:=.bool false)
       have p2:=cw F1.out.2.1 2 (v:=.bool false)
       have p3:=cw F1.out.2.1 3 (v:=.int .i64 0)
       have pz0:=blk_frozen F1.out.2.1 0
       have pz1:=blk_frozen F1.out.2.1 1
       have pz2:=blk_frozen F1.out.2.1 2
       have pz3:=blk_frozen F1.out.2.1 3
       go_wp2_with fail
       go_meet
       refine⟨rfl,?_,?_,?_,?_⟩
       ·exact(blk_far (blk_far (blk_far (blk_far F1.out.1 (p:=⟨_,0,none⟩) (by simp) _) (p:=⟨_,1,none⟩) (by simp) _) (p:=⟨_,2,none⟩) (by simp) _) (p:=⟨_,3,none⟩) (by simp) _)
       ·exact(blk_set (blk_set (blk_set (blk_set F1.out.2.1 0 _) 1 _) 2 _) 3 _).trans (by simp)
       ·exact(blk_far (blk_far (blk_far (blk_far F1.out.2.2 (p:=⟨_,0,none⟩) (by simp) _) (p:=⟨_,1,none⟩) (by simp) _) (p:=⟨_,2,none⟩) (by simp) _) (p:=⟨_,3,none⟩) (by simp) _)
       ·have hz:=BW.out.size
        exact(((((BW.out.trans (BB.out.mono hz)).setCell (p:=⟨_,0,none⟩) (by dsimp only;omega) _).setCell (p:=⟨_,1,none⟩) (by dsimp only;omega) _).setCell (p:=⟨_,2,none⟩) (by dsimp only;omega) _).setCell (p:=⟨_,3,none⟩) (by dsimp only;omega) _)
     case rest =>
      obtain⟨rfl,hcut⟩:=hcut
      generalize ht3:(if t2 then hd else 0)=t3 at hcut
      have HT3:=AS ht3
      clear ht3
      have CU:=AS hcut
      clear p0 q0 c0 pz0 qz0 p1 q1 c1 pz1 qz1 p2 q2 c2 pz2 qz2 p3 q3 c3 pz3 qz3
      clear hcut BW
      have c0:=cw CU.out.1 0 (v:=.int .i64 hc)
      have c1:=cw CU.out.1 1 (v:=.bool ho)
      have c2:=cw CU.out.1 2 (v:=.bool hh)
      have c3:=cw CU.out.1 3 (v:=.int .i64 hd)
      have p0:=cw CU.out.2.1 0 (v:=.int .i64 n1)
      have p1:=cw CU.out.2.1 1 (v:=.bool o1)
      have p2:=cw CU.out.2.1 2 (v:=.bool t2)
      have p3:=cw CU.out.2.1 3 (v:=.int .i64 t3)
      have pz0:=blk_frozen CU.out.2.1 0
      have pz1:=blk_frozen CU.out.2.1 1
      have pz2:=blk_frozen CU.out.2.1 2
      have pz3:=blk_frozen CU.out.2.1 3
      have q0:=cw CU.out.2.2.1 0 (v:=.int .i64 0)
      have q1:=cw CU.out.2.2.1 1 (v:=.bool false)
      have q2:=cw CU.out.2.2.1 2 (v:=.bool false)
      have q3:=cw CU.out.2.2.1 3 (v:=.int .i64 0)
      have qz0:=blk_frozen CU.out.2.2.1 0
      have qz1:=blk_frozen CU.out.2.2.1 1
      have qz2:=blk_frozen CU.out.2.2.1 2
      have qz3:=blk_frozen CU.out.2.2.1 3
      go_upto_if 56 with fail
      go_cut [10] (fun v10 wx=>v10=.int .i64 n1/\wx.heap[w.heap.size+1]?=some (.cells #[.int .i64 n1,.bool o1,.bool t2,.int .i64 t3] 45)/\wx.heap[w.heap.size+2]?=some (.cells #[.int .i64 r0,.bool r1,.bool r2,.int .i64 r3] 45)/\Below w.heap.size w wx)
      case first =>
       have hs3:=HS3.out
       by_cases h2:n1 < hc
       ·rw[if_pos h2] at hs3
        have HV2:=AS hs3
        clear hs3 HS3
        cases ho <;> cases o1
        all_goals
         go_wp2_with fail
         refine(valued_any _ _ _ _ _).mono ?_
         rintro e w1 ⟨rfl,hw⟩
         have BB:=AS (show Below wc.heap.size wc w1 from by rw[<- hw];exact below_alloc (below_alloc (Below.refl _ _) _) _)
         clear hw
         have hv2:=HV2.out
         simp only[S.valued,Bun.mk.injEq,Bool.true_and,Bool.false_and,Bool.not_true,Bool.not_false] at hv2
         generalize (if hh=true then hd else 0)=dv at hv2 ⊢
         obtain⟨rfl,rfl,rfl,rfl⟩:=hv2
         have F8:=AS (blk_below CU.out.2.1 BB.out)
         have F9:=AS (blk_below CU.out.2.2.1 BB.out)
         clear p0 q0 c0 pz0 qz0 p1 q1 c1 pz1 qz1 p2 q2 c2 pz2 qz2 p3 q3 c3 pz3 qz3
         have q0:=cw F9.out 0 (v:=.int .i64 0)
         have q1:=cw F9.out 1 (v:=.bool false)
         have q2:=cw F9.out 2 (v:=.bool false)
         have q3:=cw F9.out 3 (v:=.int .i64 0)
         have qz0:=blk_frozen F9.out 0
         have qz1:=blk_frozen F9.out 1
         have qz2:=blk_frozen F9.out 2
         have qz3:=blk_frozen F9.out 3
         go_wp2_with fail
         go_meet
         refine⟨rfl,?_,?_,?_⟩
         ·exact(blk_far (blk_far (blk_far (blk_far F8.out (p:=⟨_,0,none⟩) (by simp) _) (p:=⟨_,1,none⟩) (by simp) _) (p:=⟨_,2,none⟩) (by simp) _) (p:=⟨_,3,none⟩) (by simp) _)
         ·exact(blk_set (blk_set (blk_set (blk_set F9.out 0 _) 1 _) 2 _) 3 _).trans (by simp)
         ·have hz:=CU.out.2.2.2.size
          exact(((((CU.out.2.2.2.trans (BB.out.mono hz)).setCell (p:=⟨_,0,none⟩) (by dsimp only;omega) _).setCell (p:=⟨_,1,none⟩) (by dsimp only;omega) _).setCell (p:=⟨_,2,none⟩) (by dsimp only;omega) _).setCell (p:=⟨_,3,none⟩) (by dsimp only;omega) _)
       ·rw[if_neg h2] at hs3
        simp only[b0,Bun.mk.injEq] at hs3
        obtain⟨rfl,rfl,rfl,rfl⟩:=hs3
        go_wp2_with fail
        go_meet
        exact⟨rfl,CU.out.2.1,CU.out.2.2.1,CU.out.2.2.2⟩
      case rest =>
       obtain⟨rfl,hcut⟩:=hcut
       have CV:=AS hcut
       clear p0 q0 c0 pz0 qz0 p1 q1 c1 pz1 qz1 p2 q2 c2 pz2 qz2 p3 q3 c3 pz3 qz3
       clear hcut CU HS3
       have p0:=cw CV.out.1 0 (v:=.int .i64 n1)
       have p1:=cw CV.out.1 1 (v:=.bool o1)
       have p2:=cw CV.out.1 2 (v:=.bool t2)
       have p3:=cw CV.out.1 3 (v:=.int .i64 t3)
       have pz0:=blk_frozen CV.out.1 0
       have pz1:=blk_frozen CV.out.1 1
       have pz2:=blk_frozen CV.out.1 2
       have pz3:=blk_frozen CV.out.1 3
       have q0:=cw CV.out.2.1 0 (v:=.int .i64 r0)
       have q1:=cw CV.out.2.1 1 (v:=.bool r1)
       have q2:=cw CV.out.2.1 2 (v:=.bool r2)
       have q3:=cw CV.out.2.1 3 (v:=.int .i64 r3)
       have qz0:=blk_frozen CV.out.2.1 0
       have qz1:=blk_frozen CV.out.2.1 1
       have qz2:=blk_frozen CV.out.2.1 2
       have qz3:=blk_frozen CV.out.2.1 3
       go_upto_region 10 with fail
       go_region
       all_goals
        go_wp2
        exact bodyPost_ret (v:=.tuple #[bunV ⟨n1,o1,t2,t3⟩,bunV ⟨r0,r1,r2,r3⟩]) (by simp[results,Tryz.results147,go_sem,bunV,p0,q0,p1,q1,p2,q2,p3,q3]) rfl ⟨by rw[<- HT3.out,<- HT2.out];rfl,by have hz:=CV.out.2.2.size;repeat (first | with_reducible exact CV.out.2.2 | with_reducible refine Below.setCell ?_ (by dsimp only;omega) _ | with_reducible apply Below.drew)⟩
end Go.Proofs.YtiebppkhaiofeaaGreat.K
namespace Go.Proofs.YtiebppkhaiofeaaGreat.K
open Go.RowKit Go.Proofs.YtiebppkhaiofeaaGreatW.PrintWords Go.Proofs.YtiebppkhaiofeaaGreat.S
open Go.ChangeMaps Go.MapKept
def Ch (F:Set_) (w:Go.World) (P:Set_) (W:Go.World):Prop:=KS F w W/\∀ x,P x->gr F w x
section
variable {F P:Set_} {w W W':Go.World}
theorem Ch.refl (F:Set_) (w:Go.World):Ch F w (fun x=>F x/\x < w.heap.size) w:=⟨KS.refl _ _,fun x h=>.inl h.1⟩
theorem Ch.below (h:Ch F w P W) (hb:Below W.heap.size W W'):Ch F w P W':=⟨h.1.andBelow hb,h.2⟩
theorem Ch.alloc (h:Ch F w P W) (o:Obj):Ch F w P (W.alloc o):=h.below (below_alloc (Below.refl _ _) o)
theorem Ch.drew (h:Ch F w P W):Ch F w P W.drew:=⟨h.1.drew,h.2⟩
theorem Ch.drewN (h:Ch F w P W) (n:Nat):Ch F w P (W.drewN n):=⟨h.1.drewN n,h.2⟩
theorem Ch.op (h:Ch F w P W) (k:KS P W W'):Ch F w (gr P W) W':=⟨h.1.trans k (fun x hx hp=>by rcases h.2 x hp with h1 | h1;exact h1;omega),fun x hx=>by rcases hx with h1 | h1;exact h.2 x h1;exact .inr (by have:=h.1.size;omega)⟩
theorem Ch.same (h:Ch F w P W) (k:KS P W W'):Ch F w P W':=⟨h.1.trans k (fun x hx hp=>by rcases h.2 x hp with h1 | h1;exact h1;omega),h.2⟩
theorem Ch.trim (h:Ch F w P W):Ch F w (fun x=>P x/\x < W.heap.size) W:=⟨h.1,fun x hx=>h.2 x hx.1⟩
theorem Ch.set (h:Ch F w P W) {g:Nat} (hg:w.heap.size≤g) (i:Nat) (u:Value):Ch F w P (W.setCell ⟨g,i,none⟩ u):=⟨h.1.set (.inr hg) i u,h.2⟩
end
def CacB (c:Cfg) (s:Cache) (b bl bt:Nat) (F:Set_) (w:World):Prop :=
 ∃ (Fl:Set_) (es:Array MapEntry) (ck:Nat) (f:Int->Option Value),w.heap[b]?=some (.cells #[.pointer (some ⟨bl,0,none⟩),.map (some bt)] 177 (0,0))/\w.heap[bt]?=some (.map es ck)/\IM es ck f /\
  (∀ k,(f k).getD (bunV b0)=bunV (s.tok k))/\LinAt c s.rows bl Fl w/\¬ Fl b/\¬ Fl bt/\b≠bt/\F b/\F bt/\(∀ x,Fl x->F x)
section
variable {c:Cfg} {s:Cache} {b bl bt:Nat} {F F' G:Set_} {w w':Go.World}
theorem CacAt.parts (h:CacAt c s b F w):∃ bl bt,CacB c s b bl bt F w:=by
 obtain⟨Fl,bl,bt,es,ck,f,h1,h2,h3,h4,h5,h6,h7,h8,h9,h10,h11,h12⟩:=h
 exact⟨bl,bt,Fl,es,ck,f,h1,h2,h3,h4,h5,h6,h7,h8,h9,h10,h11⟩
theorem CacB.at_ (h:CacB c s b bl bt F w):CacAt c s b F w:=by
 obtain⟨Fl,es,ck,f,h1,h2,h3,h4,h5,h6,h7,h8,h9,h10,h11⟩:=h
 exact⟨Fl,bl,bt,es,ck,f,h1,h2,h3,h4,h5,h6,h7,h8,h9,h10,h11,fun e=>h6 (e ▸ h5.mem)⟩
theorem CacB.keep (h:CacB c s b bl bt F w) (hk:KS G w w') (hs:∀ x,x < w.heap.size->F x->F' x/\¬ G x):CacB c s b bl bt F' w':=by
 obtain⟨Fl,es,ck,f,h1,h2,h3,h4,h5,h6,h7,h8,h9,h10,h11⟩:=h
 have i1:=hs b (blk_lt h1) h9
 have i2:=hs bt (blk_lt h2) h10
 refine⟨fun x=>Fl x/\x < w.heap.size,es,ck,f,hk.at_ h1 i1.2,hk.at_ h2 i2.2,h3,h4,h5.keep hk (fun x hx hF=>⟨⟨hF,hx⟩,(hs x hx (h11 x hF)).2⟩),fun h=>h6 h.1,fun h=>h7 h.1,h8,i1.1,i2.1,fun x hx=>(hs x hx.2 (h11 x hx.1)).1⟩
theorem CacB.below (h:CacB c s b bl bt F w) (hb:Below w.heap.size w w'):CacB c s b bl bt F w':=h.keep (KS.below (fun _=>False) hb) (fun x _ h=>⟨h,id⟩)
theorem CacB.sub (h:CacB c s b bl bt F w) (hs:∀ x,x < w.heap.size->F x->F' x):CacB c s b bl bt F' w:=h.keep (KS.refl (fun _=>False) w) (fun x hx h=>⟨hs x hx h,id⟩)
theorem CacB.trim (h:CacB c s b bl bt F w):CacB c s b bl bt (fun x=>F x/\x < w.heap.size) w:=h.sub (fun x hx h=>⟨h,hx⟩)
theorem CacB.blk (h:CacB c s b bl bt F w):w.heap[b]?=some (.cells #[.pointer (some ⟨bl,0,none⟩),.map (some bt)] 177 (0,0)):=by obtain⟨Fl,es,ck,f,h1,_⟩:=h;exact h1
theorem CacB.lt (h:CacB c s b bl bt F w):b < w.heap.size:=blk_lt h.blk
theorem CacB.mem (h:CacB c s b bl bt F w):F b:=by obtain⟨Fl,es,ck,f,h1,h2,h3,h4,h5,h6,h7,h8,h9,h10,h11⟩:=h;exact h9
theorem CacAt.keep (h:CacAt c s b F w) (hk:KS G w w') (hs:∀ x,x < w.heap.size->F x->F' x/\¬ G x):CacAt c s b F' w':=by
 obtain⟨bl,bt,h⟩:=h.parts
 exact(h.keep hk hs).at_
theorem CacAt.lt (h:CacAt c s b F w):b < w.heap.size:=by obtain⟨bl,bt,h⟩:=h.parts;exact h.lt
theorem CacAt.mem (h:CacAt c s b F w):F b:=by obtain⟨bl,bt,h⟩:=h.parts;exact h.mem
theorem under175:Tryz.prog.underlying 175=some (.map 3 45):=by kernel_rfl
theorem zero45 (w:Go.World):(zeroValue 45).run Tryz.prog w=.ok (bunV b0) w:=by kernel_rfl
theorem CacB.look (h:CacB c s b bl bt F w) (k:Int):(Instr.lookup 175 (.map (some bt)) (.int .i64 k) false).run Tryz.prog w=.ok (bunV (s.tok k)) w:=by
 obtain⟨Fl,es,ck,f,h1,h2,h3,h4,_⟩:=h
 rw[<- h4 k]
 exact h3.look h2 under175 under3 (zero45 _) k
theorem CacB.step {s':Cache} {es:Array MapEntry} {ck:Nat} {f:Int->Option Value} (h:CacB c s b bl bt F w) (hi:IM es ck f) (hf:∀ k,(f k).getD (bunV b0)=bunV (s'.tok k)) (hr:s'.rows=s.rows):CacB c s' b bl bt F (setBlock w bt (.map es ck))/\KS F w (setBlock w bt (.map es ck)):=by
 obtain⟨Fl,es0,ck0,f0,h1,h2,h3,h4,h5,h6,h7,h8,h9,h10,h11⟩:=h
 refine⟨⟨fun x=>Fl x/\x < w.heap.size,es,ck,f,(set_far h2 _ h8).trans h1,set_at h2 _,hi,hf,?_,fun h=>h6 h.1,fun h=>h7 h.1,h8,h9,h10,fun x hx=>h11 x hx.1⟩,(KS.refl F w).block (.inl h10) _⟩
 rw[hr]
 exact h5.keep ((KS.refl (fun x=>x=bt) w).block (.inl rfl) _) (fun x hx hF=>⟨⟨hF,hx⟩,fun e=>h7 (e ▸ hF)⟩)
theorem CacB.put (h:CacB c s b bl bt F w) (k:Int) (y:Bun):∃ es ck,(Instr.mapUpdate 175 (.map (some bt)) (.int .i64 k) (bunV y)).run Tryz.prog w=.ok () (setBlock w bt (.map es ck))/\CacB c { s with tok:=upd s.tok k y } b bl bt F (setBlock w bt (.map es ck))/\KS F w (setBlock w bt (.map es ck)):=by
 have h':=h
 obtain⟨Fl,es0,ck0,f0,h1,h2,h3,h4,h5,h6,h7,h8,h9,h10,h11⟩:=h'
 obtain⟨es,ck,hr,hi⟩:=h3.put h2 under175 under3 k (bunV y)
 refine⟨es,ck,hr,h.step hi (fun j=>?_) rfl⟩
 by_cases hj:j=k
 ·subst hj;simp[fput,upd]
 ·simp[fput,upd,hj,h4 j]
theorem CacB.del (h:CacB c s b bl bt F w) (k:Int) (a t:TypeId):∃ es ck,(Builtin.delete_ #[175,a] t #[.map (some bt),.int .i64 k]).run Tryz.prog w=.ok (.tuple #[]) (setBlock w bt (.map es ck))/\CacB c { s with tok:=upd s.tok k b0 } b bl bt F (setBlock w bt (.map es ck))/\KS F w (setBlock w bt (.map es ck)):=by
 have h':=h
 obtain⟨Fl,es0,ck0,f0,h1,h2,h3,h4,h5,h6,h7,h8,h9,h10,h11⟩:=h'
 obtain⟨es,hr,hi⟩:=h3.del h2 under175 under3 k a t
 refine⟨es,ck0,hr,h.step hi (fun j=>?_) rfl⟩
 by_cases hj:j=k
 ·subst hj;simp[fdel,upd]
 ·simp[fdel,upd,hj,h4 j]
theorem CacB.lin (h:CacB c s b bl bt F w):∃ Fl,LinAt c s.rows bl Fl w/\∀ rows' w1,LinAt c rows' bl (gr Fl w) w1->KS Fl w w1->CacB c { s with rows:=rows' } b bl bt (gr F w) w1/\KS F w w1:=by
 obtain⟨Fl,es,ck,f,h1,h2,h3,h4,h5,h6,h7,h8,h9,h10,h11⟩:=h
 refine⟨Fl,h5,fun rows' w1 hL hk=>⟨⟨gr Fl w,es,ck,f,hk.at_ h1 h6,hk.at_ h2 h7,h3,h4,hL,?_,?_,h8,.inl h9,.inl h10,?_⟩,hk.mono (fun x _ hx=>h11 x hx)⟩⟩
 ·rintro(h | h);exact h6 h;have:=blk_lt h1;omega
 ·rintro(h | h);exact h7 h;have:=blk_lt h2;omega
 ·rintro x (h | h);exact .inl (h11 x h);exact .inr h
end
def CacP (v:Value) (c:Cfg) (s:Cache) (b bl bt:Nat) (F:Set_) (w:Go.World) (e:Ending) (w':Go.World):Prop:=e=.returned v/\CacB c s b bl bt (gr F w) w'/\KS F w w'
theorem CacP.of {v v':Value} {c:Cfg} {s:Cache} {b bl bt:Nat} {F P:Set_} {w W:Go.World} (hv:v'=v) (hC:CacB c s b bl bt P W) (hh:Ch F w P W):CacP v c s b bl bt F w (.returned v') W:=⟨by rw[hv],hC.sub (fun x _ h=>hh.2 x h),hh.1⟩
theorem add_eq (c:Cfg) (s:Cache) (k:Int):s.add c k=({ s with rows:=(rAdd c s.rows k).1 },(rAdd c s.rows k).2):=by
 unfold Cache.add rAdd Cache.has Cache.row;split <;> rfl
theorem remove_eq (c:Cfg) (s:Cache) (k:Int):s.remove c k=({ s with rows:=(rRemove c s.rows k).1 },(rRemove c s.rows k).2):=by
 unfold Cache.remove rRemove Cache.has Cache.row;split <;> rfl
theorem use_eq (c:Cfg) (s:Cache) (k:Int):s.use c k=({ s with rows:=(rUse c s.rows k).1 },(rUse c s.rows k).2):=by
 unfold Cache.use rUse
 rw[remove_eq]
 cases h:(rRemove c s.rows k).2 with
 | false=>simp
 | true=>simp[add_eq]
theorem victim_eq (c:Cfg) (s:Cache) (k p:Int):s.victim c k p=vicOf c s.rows k p:=rfl
theorem lose_eq (c:Cfg) (s:Cache) (k:Int):s.lose c k=(⟨(rRemove c s.rows k).1,upd s.tok k b0⟩,s.tok k):=by
 unfold Cache.lose
 rw[remove_eq]
end Go.Proofs.YtiebppkhaiofeaaGreat.K
