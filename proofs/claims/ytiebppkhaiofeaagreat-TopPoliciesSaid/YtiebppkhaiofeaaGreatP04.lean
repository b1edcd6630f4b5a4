/- Part of the proof of TopPolicies: what functions of the program do. -/
import Derived.Test.YtiebppkhaiofeaaGreatP03
import Derived.Test.YtiebppkhaiofeaaGreatP00
set_option maxHeartbeats 4000000
set_option maxRecDepth 100000
set_option linter.unusedVariables false
set_option linter.unusedSimpArgs false
open Go.IntKind renaming i64→I
open Option renaming some→M, none→U
open Go.Obj renaming cells→O
open Go.Value renaming int→V, bool→aA, pointer→bA
open Go.ChangeMaps renaming setBlock→aB
open Go renaming Calls→bB, World→cA, bodyPost_ret→yA
open Go.Proofs.Tryz renaming prog→dA
open Go.Proofs.YtiebppkhaiofeaaGreatW.PrintWords renaming below_alloc→eA, blk_lt→eB, blk_drew→fB, blk_frozen→jA, blk_below→kA, blk_alloc→lA, blk_set→mA, blk_new→nA
open Go.RowKit.Below renaming refl→fA, drew→iA, setCell→oA
open Nat renaming le_refl→pA
open Go.Proofs.YtiebppkhaiofeaaGreat.K.KS renaming below→pB, refl→qB
open And renaming intro→qA
open Go.World renaming size_alloc→rA
open Bool renaming false_eq_true→vA
namespace Go.Proofs.YtiebppkhaiofeaaGreat.K
open Go.RowKit Go.Proofs.YtiebppkhaiofeaaGreatW.PrintWords Go.Proofs.YtiebppkhaiofeaaGreat.S
attribute [local go_sem] World.cell?_alloc_some
def spOw (n:Int) (ow ho:Bool):Bool:=ow && ho && decide (0 < n)
def splN (hc n:Int) (ow ho:Bool):Int:=if ho && !spOw n ow ho then min n (wrap64 (hc - 1)) else n
theorem splitK_eq (hc:Int) (ho hh:Bool) (hd n:Int) (ow da:Bool):splitK ⟨hc,ho,hh,hd⟩ n ow da=splitM ⟨hc,ho,hh,hd⟩ (splN hc n ow ho) (spOw n ow ho) da:=by
 unfold splitK splN spOw
 by_cases h:0 < n <;> cases ow <;> cases ho <;> simp[h]
theorem split_any (hc:Int) (ho hh:Bool) (hd count:Int) (ow da:Bool) (w:cA):bB dA 147 #[.agg #[V I hc,aA ho,aA hh,V I hd],V I count,aA ow,aA da] w (RV (.tuple #[bunV (split ⟨hc,ho,hh,hd⟩ count ow da).1,bunV (split ⟨hc,ho,hh,hd⟩ count ow da).2]) w):=by
 have hm:(hc < 0/\max hc 0=0)∨(¬ hc < 0/\max hc 0=hc):=vB
 have X4:=AS (show(((w.alloc (O #[V I hc,aA ho,aA hh,V I hd] 45)).alloc (O #[V I 0,aA false,aA false,V I 0] 45)).alloc (O #[V I 0,aA false,aA false,V I 0] 45)).heap[w.heap.size]?=M (O #[V I hc,aA ho,aA hh,V I hd] 45) from lA (lA (nA w _) _) _)
 have X8:=AS (show(((w.alloc (O #[V I hc,aA ho,aA hh,V I hd] 45)).alloc (O #[V I 0,aA false,aA false,V I 0] 45)).alloc (O #[V I 0,aA false,aA false,V I 0] 45)).heap[w.heap.size+1]?=M (O #[V I 0,aA false,aA false,V I 0] 45) from by have:=lA (nA (w.alloc (O #[V I hc,aA ho,aA hh,V I hd] 45)) (O #[V I 0,aA false,aA false,V I 0] 45)) (O #[V I 0,aA false,aA false,V I 0] 45);simpa using this)
 have X9:=AS (show(((w.alloc (O #[V I hc,aA ho,aA hh,V I hd] 45)).alloc (O #[V I 0,aA false,aA false,V I 0] 45)).alloc (O #[V I 0,aA false,aA false,V I 0] 45)).heap[w.heap.size+2]?=M (O #[V I 0,aA false,aA false,V I 0] 45) from by have:=nA ((w.alloc (O #[V I hc,aA ho,aA hh,V I hd] 45)).alloc (O #[V I 0,aA false,aA false,V I 0] 45)) (O #[V I 0,aA false,aA false,V I 0] 45);simpa using this)
 have BW:=AS (show Below w.heap.size w (((w.alloc (O #[V I hc,aA ho,aA hh,V I hd] 45)).alloc (O #[V I 0,aA false,aA false,V I 0] 45)).alloc (O #[V I 0,aA false,aA false,V I 0] 45)) from eA (eA (eA (fA _ _) _) _) _)
 rw[show split ⟨hc,ho,hh,hd⟩ count ow da=splitK ⟨hc,ho,hh,hd⟩ (clamp count 0 (max hc 0)) ow da from rfl,splitK_eq]
 generalize hn:clamp count 0 (max hc 0)=n
 generalize hn1:splN hc n ow ho=n1
 generalize ho1:spOw n ow ho=o1
 have HN:=AS hn
 have HN1:=AS hn1
 have HO1:=AS ho1
 have HM:=AS hm
 clear hm hn hn1 ho1
 go_enter Tryz.func147,Tryz.ntmps147
 go_upto_region 1 with fail
 generalize hW:(((w.alloc (O #[V I hc,aA ho,aA hh,V I hd] 45)).alloc (O #[V I 0,aA false,aA false,V I 0] 45)).alloc (O #[V I 0,aA false,aA false,V I 0] 45))=W at X4 X8 X9 BW ⊢
 clear hW
 have c0:=cw X4.out 0 (v:=V I hc)
 have c1:=cw X4.out 1 (v:=aA ho)
 have c2:=cw X4.out 2 (v:=aA hh)
 have c3:=cw X4.out 3 (v:=V I hd)
 go_cut [10] (fun v10 wx=>v10=V I n/\wx=W)
 case first =>
  have hm:=HM.out
  have hn:=HN.out
  rcases hm with ⟨hm1,hm⟩ | ⟨hm1,hm⟩
  all_goals
   rw[hm] at hn
   have HN2:=AS hn
   clear hn hm
   go_wp2_with fail
   refine(clamp_any _ _ _ _).mono ?_
   rintro e w1 ⟨rfl,rfl⟩
   rw[HN2.out]
   go_wp2_with fail
   go_meet
   exact⟨rfl,rfl⟩
 case rest =>
  obtain⟨rfl,rfl⟩:=hcut
  go_upto_region 2 with fail
  go_cut [2] (fun v2 wx=>v2=aA o1/\wx=wc)
  case first =>
   have h1:=HO1.out
   have O2:∀ (b1 b2:Bool),spOw n b1 b2=(b1 && b2 && decide (0 < n)):=fun _ _=>rfl
   rw[O2] at h1
   have HX:=AS h1
   clear h1 O2
   cases ow <;> cases ho <;> (by_cases hn0:0 < n)
   all_goals
    go_wp2_with fail
    go_meet
    exact⟨by rw[<- HX.out];simp[*],rfl⟩
  case rest =>
   obtain⟨rfl,rfl⟩:=hcut
   go_upto_region 3 with fail
   go_cut [30] (fun v30 wx=>v30=aA (ho && !o1)/\wx=wc)
   case first =>
    cases ho <;> cases o1
    all_goals
     go_wp2_with fail
     go_meet
     exact⟨rfl,rfl⟩
   case rest =>
   obtain⟨rfl,rfl⟩:=hcut
   generalize hg:(ho && !o1)=gd
   have HG:=AS hg
   clear hg
   go_upto_if 30 with fail
   go_cut [10] (fun v10 wx=>v10=V I n1/\wx=wc)
   case first =>
    have h1:=HN1.out
    have O2:splN hc n ow ho=if gd then min n (wrap64 (hc - 1)) else n:=by rw[<- HG.out,<- HO1.out];rfl
    rw[O2] at h1
    clear O2
    have hmin:(wrap64 (hc - 1) < n/\min n (wrap64 (hc - 1))=wrap64 (hc - 1))∨(¬ wrap64 (hc - 1) < n/\min n (wrap64 (hc - 1))=n):=vB
    cases gd
    ·simp only[vA,if_false] at h1
     have H1:=AS h1
     clear h1 hmin
     go_wp2_with fail
     go_meet
     exact⟨by rw[<- H1.out],rfl⟩
    ·simp only[if_true] at h1
     rcases hmin with ⟨hq,hmin⟩ | ⟨hq,hmin⟩
     all_goals
      rw[hmin] at h1
      have H1:=AS h1
      clear h1 hmin
      go_wp2_with fail
      go_meet
      exact⟨by rw[<- H1.out],rfl⟩
   case rest =>
    clear HG
    obtain⟨rfl,rfl⟩:=hcut
    have p0:=cw X8.out 0 (v:=V I 0)
    have p1:=cw X8.out 1 (v:=aA false)
    have p2:=cw X8.out 2 (v:=aA false)
    have p3:=cw X8.out 3 (v:=V I 0)
    have pz0:=jA X8.out 0
    have pz1:=jA X8.out 1
    have pz2:=jA X8.out 2
    have pz3:=jA X8.out 3
    have q0:=cw X9.out 0 (v:=V I 0)
    have q1:=cw X9.out 1 (v:=aA false)
    have q2:=cw X9.out 2 (v:=aA false)
    have q3:=cw X9.out 3 (v:=V I 0)
    have qz0:=jA X9.out 0
    have qz1:=jA X9.out 1
    have qz2:=jA X9.out 2
    have qz3:=jA X9.out 3
    have FIN:=AS (show ∀ w2,Below wc.heap.size wc w2∨Keeps [w.heap.size+1,w.heap.size+2] wc w2->Below w.heap.size w w2 from by
     intro w2 h
     rcases h with h | h
     ·exact BW.out.trans (h.mono BW.out.size)
     ·exact BW.out.trans (h.toBelow (by intro x hx;simp at hx;omega) BW.out.size))
    by_cases h1:n1 < 1
    ·have HS:=AS (show splitM ⟨hc,ho,hh,hd⟩ n1 o1 da=(b0,⟨hc,ho,hh,hd⟩) from if_pos h1)
     go_upto_region 6 with fail
     all_goals
      try go_region
      all_goals
       go_wp2
       rw[HS.out]
       exact yA (v:=.tuple #[bunV b0,bunV ⟨hc,ho,hh,hd⟩]) (by simp[results,Tryz.results147,go_sem,bunV,b0,p0,q0,c0,p1,q1,c1,p2,q2,c2,p3,q3,c3]) rfl ⟨rfl,FIN.out _ (.inr (by repeat (with_reducible first | exact Keeps.refl _ _ | refine Keeps.set ?_ (.inl zB) _ _ | apply Keeps.alloc | apply Keeps.drew)))⟩
    ·skip
     have HS1:=AS (show(splitM ⟨hc,ho,hh,hd⟩ n1 o1 da).1=S.valued n1 o1 (hh && (da || o1)) hd by simp[splitM,h1])
     have HS2:=AS (show(splitM ⟨hc,ho,hh,hd⟩ n1 o1 da).2=if n1 < hc then S.valued (wrap64 (hc - n1)) (ho && !o1) hh hd else b0 by simp[splitM,h1])
     generalize splitM ⟨hc,ho,hh,hd⟩ n1 o1 da=sp at *
     obtain⟨s1,s2⟩:=sp
     have hs1:s1=S.valued n1 o1 (hh && (da || o1)) hd:=HS1.out
     have HS3:=AS (show s2=if n1 < hc then S.valued (wrap64 (hc - n1)) (ho && !o1) hh hd else b0 from HS2.out)
     clear HS1 HS2
     subst hs1
     obtain⟨r0,r1,r2,r3⟩:=s2
     generalize ht2:(hh && (da || o1))=t2
     have HT2:=AS ht2
     clear ht2
     go_upto_region 7 with fail
     go_cut [10] (fun v10 wx=>v10=V I n1/\wx.heap[w.heap.size]?=M (O #[V I hc,aA ho,aA hh,V I hd] 45)/\wx.heap[w.heap.size+1]?=M (O #[V I n1,aA o1,aA t2,V I (if t2 then hd else 0)] 45)/\wx.heap[w.heap.size+2]?=M (O #[V I 0,aA false,aA false,V I 0] 45)/\Below w.heap.size w wx)
     case first =>
      have FINI:=AS (show ∀ w1,Below wc.heap.size wc w1->w1.heap[w.heap.size]?=M (O #[V I hc,aA ho,aA hh,V I hd] 45)/\w1.heap[w.heap.size+1]?=M (O #[V I 0,aA false,aA false,V I 0] 45)/\w1.heap[w.heap.size+2]?=M (O #[V I 0,aA false,aA false,V I 0] 45) from fun w1 hb=>⟨kA X4.out hb,kA X8.out hb,kA X9.out hb⟩)
      have HX:=AS (show t2=(hh && (da || o1)) from HT2.out.symm)
      clear HT2
      cases hh <;> cases da <;> cases o1
      all_goals
       have ht2:=HX.out
       simp only[Bool.false_and,Bool.true_and,Bool.or_false,Bool.or_true,Bool.false_or,Bool.true_or] at ht2
       subst ht2
       go_wp2_with fail
       refine(valued_any _ _ _ _ _).mono ?_
       rintro e w1 ⟨rfl,hw⟩
       have BB:=AS (show Below wc.heap.size wc w1 from by rw[<- hw];exact eA (eA (fA _ _) _) _)
       clear hw
       have F1:=AS (FINI.out w1 BB.out)
       clear p0 q0 c0 pz0 qz0 p1 q1 c1 pz1 qz1 p2 q2 c2 pz2 qz2 p3 q3 c3 pz3 qz3
       have p0:=cw F1.out.2.1 0 (v:=V I 0)
       have p1:=cw F1.out.2.1 1 (v:=aA false)
       have p2:=cw F1.out.2.1 2 (v:=aA false)
       have p3:=cw F1.out.2.1 3 (v:=V I 0)
       have pz0:=jA F1.out.2.1 0
       have pz1:=jA F1.out.2.1 1
       have pz2:=jA F1.out.2.1 2
       have pz3:=jA F1.out.2.1 3
       go_wp2_with fail
       go_meet
       refine⟨rfl,?_,?_,?_,?_⟩
       ·exact(blk_far (blk_far (blk_far (blk_far F1.out.1 (p:=⟨_,0,U⟩) zB _) (p:=⟨_,1,U⟩) zB _) (p:=⟨_,2,U⟩) zB _) (p:=⟨_,3,U⟩) zB _)
       ·exact(mA (mA (mA (mA F1.out.2.1 0 _) 1 _) 2 _) 3 _).trans zB
       ·exact(blk_far (blk_far (blk_far (blk_far F1.out.2.2 (p:=⟨_,0,U⟩) zB _) (p:=⟨_,1,U⟩) zB _) (p:=⟨_,2,U⟩) zB _) (p:=⟨_,3,U⟩) zB _)
       ·have hz:=BW.out.size
        exact(((((BW.out.trans (BB.out.mono hz)).setCell (p:=⟨_,0,U⟩) (by dsimp only;omega) _).setCell (p:=⟨_,1,U⟩) (by dsimp only;omega) _).setCell (p:=⟨_,2,U⟩) (by dsimp only;omega) _).setCell (p:=⟨_,3,U⟩) (by dsimp only;omega) _)
     case rest =>
      obtain⟨rfl,hcut⟩:=hcut
      generalize ht3:(if t2 then hd else 0)=t3 at hcut
      have HT3:=AS ht3
      clear ht3
      have CU:=AS hcut
      clear p0 q0 c0 pz0 qz0 p1 q1 c1 pz1 qz1 p2 q2 c2 pz2 qz2 p3 q3 c3 pz3 qz3
      clear hcut BW
      have c0:=cw CU.out.1 0 (v:=V I hc)
      have c1:=cw CU.out.1 1 (v:=aA ho)
      have c2:=cw CU.out.1 2 (v:=aA hh)
      have c3:=cw CU.out.1 3 (v:=V I hd)
      have p0:=cw CU.out.2.1 0 (v:=V I n1)
      have p1:=cw CU.out.2.1 1 (v:=aA o1)
      have p2:=cw CU.out.2.1 2 (v:=aA t2)
      have p3:=cw CU.out.2.1 3 (v:=V I t3)
      have pz0:=jA CU.out.2.1 0
      have pz1:=jA CU.out.2.1 1
      have pz2:=jA CU.out.2.1 2
      have pz3:=jA CU.out.2.1 3
      have q0:=cw CU.out.2.2.1 0 (v:=V I 0)
      have q1:=cw CU.out.2.2.1 1 (v:=aA false)
      have q2:=cw CU.out.2.2.1 2 (v:=aA false)
      have q3:=cw CU.out.2.2.1 3 (v:=V I 0)
      have qz0:=jA CU.out.2.2.1 0
      have qz1:=jA CU.out.2.2.1 1
      have qz2:=jA CU.out.2.2.1 2
      have qz3:=jA CU.out.2.2.1 3
      go_upto_if 56 with fail
      go_cut [10] (fun v10 wx=>v10=V I n1/\wx.heap[w.heap.size+1]?=M (O #[V I n1,aA o1,aA t2,V I t3] 45)/\wx.heap[w.heap.size+2]?=M (O #[V I r0,aA r1,aA r2,V I r3] 45)/\Below w.heap.size w wx)
      case first =>
       have hs3:=HS3.out
       by_cases h2:n1 < hc
       ·rw[if_pos h2] at hs3
        have HV2:=AS hs3
        clear hs3 HS3
        cases ho <;> cases o1
        all_goals
         go_wp2_with fail
         refine(valued_any _ _ _ _ _).mono ?_
         rintro e w1 ⟨rfl,hw⟩
         have BB:=AS (show Below wc.heap.size wc w1 from by rw[<- hw];exact eA (eA (fA _ _) _) _)
         clear hw
         have hv2:=HV2.out
         simp only[S.valued,Bun.mk.injEq,Bool.true_and,Bool.false_and,Bool.not_true,Bool.not_false] at hv2
         generalize (if hh=true then hd else 0)=dv at hv2 ⊢
         obtain⟨rfl,rfl,rfl,rfl⟩:=hv2
         have F8:=AS (kA CU.out.2.1 BB.out)
         have F9:=AS (kA CU.out.2.2.1 BB.out)
         clear p0 q0 c0 pz0 qz0 p1 q1 c1 pz1 qz1 p2 q2 c2 pz2 qz2 p3 q3 c3 pz3 qz3
         have q0:=cw F9.out 0 (v:=V I 0)
         have q1:=cw F9.out 1 (v:=aA false)
         have q2:=cw F9.out 2 (v:=aA false)
         have q3:=cw F9.out 3 (v:=V I 0)
         have qz0:=jA F9.out 0
         have qz1:=jA F9.out 1
         have qz2:=jA F9.out 2
         have qz3:=jA F9.out 3
         go_wp2_with fail
         go_meet
         refine⟨rfl,?_,?_,?_⟩
         ·exact(blk_far (blk_far (blk_far (blk_far F8.out (p:=⟨_,0,U⟩) zB _) (p:=⟨_,1,U⟩) zB _) (p:=⟨_,2,U⟩) zB _) (p:=⟨_,3,U⟩) zB _)
         ·exact(mA (mA (mA (mA F9.out 0 _) 1 _) 2 _) 3 _).trans zB
         ·have hz:=CU.out.2.2.2.size
          exact(((((CU.out.2.2.2.trans (BB.out.mono hz)).setCell (p:=⟨_,0,U⟩) (by dsimp only;omega) _).setCell (p:=⟨_,1,U⟩) (by dsimp only;omega) _).setCell (p:=⟨_,2,U⟩) (by dsimp only;omega) _).setCell (p:=⟨_,3,U⟩) (by dsimp only;omega) _)
       ·rw[if_neg h2] at hs3
        simp only[b0,Bun.mk.injEq] at hs3
        obtain⟨rfl,rfl,rfl,rfl⟩:=hs3
        go_wp2_with fail
        go_meet
        exact⟨rfl,CU.out.2.1,CU.out.2.2.1,CU.out.2.2.2⟩
      case rest =>
       obtain⟨rfl,hcut⟩:=hcut
       have CV:=AS hcut
       clear p0 q0 c0 pz0 qz0 p1 q1 c1 pz1 qz1 p2 q2 c2 pz2 qz2 p3 q3 c3 pz3 qz3
       clear hcut CU HS3
       have p0:=cw CV.out.1 0 (v:=V I n1)
       have p1:=cw CV.out.1 1 (v:=aA o1)
       have p2:=cw CV.out.1 2 (v:=aA t2)
       have p3:=cw CV.out.1 3 (v:=V I t3)
       have pz0:=jA CV.out.1 0
       have pz1:=jA CV.out.1 1
       have pz2:=jA CV.out.1 2
       have pz3:=jA CV.out.1 3
       have q0:=cw CV.out.2.1 0 (v:=V I r0)
       have q1:=cw CV.out.2.1 1 (v:=aA r1)
       have q2:=cw CV.out.2.1 2 (v:=aA r2)
       have q3:=cw CV.out.2.1 3 (v:=V I r3)
       have qz0:=jA CV.out.2.1 0
       have qz1:=jA CV.out.2.1 1
       have qz2:=jA CV.out.2.1 2
       have qz3:=jA CV.out.2.1 3
       go_upto_region 10 with fail
       go_region
       all_goals
        go_wp2
        exact yA (v:=.tuple #[bunV ⟨n1,o1,t2,t3⟩,bunV ⟨r0,r1,r2,r3⟩]) (by simp[results,Tryz.results147,go_sem,bunV,p0,q0,p1,q1,p2,q2,p3,q3]) rfl ⟨by rw[<- HT3.out,<- HT2.out];rfl,by have hz:=CV.out.2.2.size;repeat (first | with_reducible exact CV.out.2.2 | with_reducible refine oA ?_ (by dsimp only;omega) _ | with_reducible apply iA)⟩
end Go.Proofs.YtiebppkhaiofeaaGreat.K
namespace Go.Proofs.YtiebppkhaiofeaaGreat.K
open Go.RowKit Go.Proofs.YtiebppkhaiofeaaGreatW.PrintWords Go.Proofs.YtiebppkhaiofeaaGreat.S
open Go.ChangeMaps Go.MapKept
def Ch (F:Set_) (w:cA) (P:Set_) (W:cA):Prop:=KS F w W/\∀ x,P x->gr F w x
section
variable {F P:Set_} {w W W':cA}
theorem Ch.refl (F:Set_) (w:cA):Ch F w (fun x=>F x/\x < w.heap.size) w:=⟨qB _ _,fun x h=>.inl h.1⟩
theorem Ch.below (h:Ch F w P W) (hb:Below W.heap.size W W'):Ch F w P W':=⟨h.1.andBelow hb,h.2⟩
theorem Ch.alloc (h:Ch F w P W) (o:Obj):Ch F w P (W.alloc o):=h.below (eA (fA _ _) o)
theorem Ch.drew (h:Ch F w P W):Ch F w P W.drew:=⟨h.1.drew,h.2⟩
theorem Ch.drewN (h:Ch F w P W) (n:Nat):Ch F w P (W.drewN n):=⟨h.1.drewN n,h.2⟩
theorem Ch.op (h:Ch F w P W) (k:KS P W W'):Ch F w (gr P W) W':=⟨h.1.trans k (fun x hx hp=>by rcases h.2 x hp with h1 | h1;exact h1;omega),fun x hx=>by rcases hx with h1 | h1;exact h.2 x h1;exact .inr (by have:=h.1.size;omega)⟩
theorem Ch.same (h:Ch F w P W) (k:KS P W W'):Ch F w P W':=⟨h.1.trans k (fun x hx hp=>by rcases h.2 x hp with h1 | h1;exact h1;omega),h.2⟩
theorem Ch.trim (h:Ch F w P W):Ch F w (fun x=>P x/\x < W.heap.size) W:=⟨h.1,fun x hx=>h.2 x hx.1⟩
theorem Ch.set (h:Ch F w P W) {g:Nat} (hg:w.heap.size≤g) (i:Nat) (u:Value):Ch F w P (W.setCell ⟨g,i,U⟩ u):=⟨h.1.set (.inr hg) i u,h.2⟩
end
def CacB (c:Cfg) (s:Cache) (b bl bt:Nat) (F:Set_) (w:World):Prop :=
 ∃ (Fl:Set_) (es:Array MapEntry) (ck:Nat) (f:Int->Option Value),w.heap[b]?=M (O #[bA (M ⟨bl,0,U⟩),.map (M bt)] 177 (0,0))/\w.heap[bt]?=M (.map es ck)/\IM es ck f /\
  (∀ k,(f k).getD (bunV b0)=bunV (s.tok k))/\LinAt c s.rows bl Fl w/\¬ Fl b/\¬ Fl bt/\b≠bt/\F b/\F bt/\(∀ x,Fl x->F x)
section
variable {c:Cfg} {s:Cache} {b bl bt:Nat} {F F' G:Set_} {w w':cA}
theorem CacAt.parts (h:CacAt c s b F w):∃ bl bt,CacB c s b bl bt F w:=by
 obtain⟨Fl,bl,bt,es,ck,f,h1,h2,h3,h4,h5,h6,h7,h8,h9,h10,h11,h12⟩:=h
 exact⟨bl,bt,Fl,es,ck,f,h1,h2,h3,h4,h5,h6,h7,h8,h9,h10,h11⟩
theorem CacB.at_ (h:CacB c s b bl bt F w):CacAt c s b F w:=by
 obtain⟨Fl,es,ck,f,h1,h2,h3,h4,h5,h6,h7,h8,h9,h10,h11⟩:=h
 exact⟨Fl,bl,bt,es,ck,f,h1,h2,h3,h4,h5,h6,h7,h8,h9,h10,h11,fun e=>h6 (e ▸ h5.mem)⟩
theorem CacB.keep (h:CacB c s b bl bt F w) (hk:KS G w w') (hs:∀ x,x < w.heap.size->F x->F' x/\¬ G x):CacB c s b bl bt F' w':=by
 obtain⟨Fl,es,ck,f,h1,h2,h3,h4,h5,h6,h7,h8,h9,h10,h11⟩:=h
 have i1:=hs b (eB h1) h9
 have i2:=hs bt (eB h2) h10
 refine⟨fun x=>Fl x/\x < w.heap.size,es,ck,f,hk.at_ h1 i1.2,hk.at_ h2 i2.2,h3,h4,h5.keep hk (fun x hx hF=>⟨⟨hF,hx⟩,(hs x hx (h11 x hF)).2⟩),fun h=>h6 h.1,fun h=>h7 h.1,h8,i1.1,i2.1,fun x hx=>(hs x hx.2 (h11 x hx.1)).1⟩
theorem CacB.below (h:CacB c s b bl bt F w) (hb:Below w.heap.size w w'):CacB c s b bl bt F w':=h.keep (pB (fun _=>False) hb) (fun x _ h=>⟨h,id⟩)
theorem CacB.sub (h:CacB c s b bl bt F w) (hs:∀ x,x < w.heap.size->F x->F' x):CacB c s b bl bt F' w:=h.keep (qB (fun _=>False) w) (fun x hx h=>⟨hs x hx h,id⟩)
theorem CacB.trim (h:CacB c s b bl bt F w):CacB c s b bl bt (fun x=>F x/\x < w.heap.size) w:=h.sub (fun x hx h=>⟨h,hx⟩)
theorem CacB.blk (h:CacB c s b bl bt F w):w.heap[b]?=M (O #[bA (M ⟨bl,0,U⟩),.map (M bt)] 177 (0,0)):=by obtain⟨Fl,es,ck,f,h1,_⟩:=h;exact h1
theorem CacB.lt (h:CacB c s b bl bt F w):b < w.heap.size:=eB h.blk
theorem CacB.mem (h:CacB c s b bl bt F w):F b:=by obtain⟨Fl,es,ck,f,h1,h2,h3,h4,h5,h6,h7,h8,h9,h10,h11⟩:=h;exact h9
theorem CacAt.keep (h:CacAt c s b F w) (hk:KS G w w') (hs:∀ x,x < w.heap.size->F x->F' x/\¬ G x):CacAt c s b F' w':=by
 obtain⟨bl,bt,h⟩:=h.parts
 exact(h.keep hk hs).at_
theorem CacAt.lt (h:CacAt c s b F w):b < w.heap.size:=by obtain⟨bl,bt,h⟩:=h.parts;exact h.lt
theorem CacAt.mem (h:CacAt c s b F w):F b:=by obtain⟨bl,bt,h⟩:=h.parts;exact h.mem
theorem under175:Tryz.prog.underlying 175=M (.map 3 45):=by kernel_rfl
theorem zero45 (w:cA):(zeroValue 45).run dA w=.ok (bunV b0) w:=by kernel_rfl
theorem CacB.look (h:CacB c s b bl bt F w) (k:Int):(Instr.lookup 175 (.map (M bt)) (V I k) false).run dA w=.ok (bunV (s.tok k)) w:=by
 obtain⟨Fl,es,ck,f,h1,h2,h3,h4,_⟩:=h
 rw[<- h4 k]
 exact h3.look h2 under175 under3 (zero45 _) k
theorem CacB.step {s':Cache} {es:Array MapEntry} {ck:Nat} {f:Int->Option Value} (h:CacB c s b bl bt F w) (hi:IM es ck f) (hf:∀ k,(f k).getD (bunV b0)=bunV (s'.tok k)) (hr:s'.rows=s.rows):CacB c s' b bl bt F (aB w bt (.map es ck))/\KS F w (aB w bt (.map es ck)):=by
 obtain⟨Fl,es0,ck0,f0,h1,h2,h3,h4,h5,h6,h7,h8,h9,h10,h11⟩:=h
 refine⟨⟨fun x=>Fl x/\x < w.heap.size,es,ck,f,(set_far h2 _ h8).trans h1,set_at h2 _,hi,hf,?_,fun h=>h6 h.1,fun h=>h7 h.1,h8,h9,h10,fun x hx=>h11 x hx.1⟩,(qB F w).block (.inl h10) _⟩
 rw[hr]
 exact h5.keep ((qB (fun x=>x=bt) w).block (.inl rfl) _) (fun x hx hF=>⟨⟨hF,hx⟩,fun e=>h7 (e ▸ hF)⟩)
theorem CacB.put (h:CacB c s b bl bt F w) (k:Int) (y:Bun):∃ es ck,(Instr.mapUpdate 175 (.map (M bt)) (V I k) (bunV y)).run dA w=.ok () (aB w bt (.map es ck))/\CacB c { s with tok:=upd s.tok k y } b bl bt F (aB w bt (.map es ck))/\KS F w (aB w bt (.map es ck)):=by
 have h':=h
 obtain⟨Fl,es0,ck0,f0,h1,h2,h3,h4,h5,h6,h7,h8,h9,h10,h11⟩:=h'
 obtain⟨es,ck,hr,hi⟩:=h3.put h2 under175 under3 k (bunV y)
 refine⟨es,ck,hr,h.step hi (fun j=>?_) rfl⟩
 by_cases hj:j=k
 ·subst hj;simp[fput,upd]
 ·simp[fput,upd,hj,h4 j]
theorem CacB.del (h:CacB c s b bl bt F w) (k:Int) (a t:TypeId):∃ es ck,(Builtin.delete_ #[175,a] t #[.map (M bt),V I k]).run dA w=.ok (.tuple #[]) (aB w bt (.map es ck))/\CacB c { s with tok:=upd s.tok k b0 } b bl bt F (aB w bt (.map es ck))/\KS F w (aB w bt (.map es ck)):=by
 have h':=h
 obtain⟨Fl,es0,ck0,f0,h1,h2,h3,h4,h5,h6,h7,h8,h9,h10,h11⟩:=h'
 obtain⟨es,hr,hi⟩:=h3.del h2 under175 under3 k a t
 refine⟨es,ck0,hr,h.step hi (fun j=>?_) rfl⟩
 by_cases hj:j=k
 ·subst hj;simp[fdel,upd]
 ·simp[fdel,upd,hj,h4 j]
theorem CacB.lin (h:CacB c s b bl bt F w):∃ Fl,LinAt c s.rows bl Fl w/\∀ rows' w1,LinAt c rows' bl (gr Fl w) w1->KS Fl w w1->CacB c { s with rows:=rows' } b bl bt (gr F w) w1/\KS F w w1:=by
 obtain⟨Fl,es,ck,f,h1,h2,h3,h4,h5,h6,h7,h8,h9,h10,h11⟩:=h
 refine⟨Fl,h5,fun rows' w1 hL hk=>⟨⟨gr Fl w,es,ck,f,hk.at_ h1 h6,hk.at_ h2 h7,h3,h4,hL,?_,?_,h8,.inl h9,.inl h10,?_⟩,hk.mono (fun x _ hx=>h11 x hx)⟩⟩
 ·rintro(h | h);exact h6 h;have:=eB h1;omega
 ·rintro(h | h);exact h7 h;have:=eB h2;omega
 ·rintro x (h | h);exact .inl (h11 x h);exact .inr h
end
def CacP (v:Value) (c:Cfg) (s:Cache) (b bl bt:Nat) (F:Set_) (w:cA) (e:Ending) (w':cA):Prop:=e=.returned v/\CacB c s b bl bt (gr F w) w'/\KS F w w'
theorem CacP.of {v v':Value} {c:Cfg} {s:Cache} {b bl bt:Nat} {F P:Set_} {w W:cA} (hv:v'=v) (hC:CacB c s b bl bt P W) (hh:Ch F w P W):CacP v c s b bl bt F w (.returned v') W:=⟨by rw[hv],hC.sub (fun x _ h=>hh.2 x h),hh.1⟩
theorem add_eq (c:Cfg) (s:Cache) (k:Int):s.add c k=({ s with rows:=(rAdd c s.rows k).1 },(rAdd c s.rows k).2):=by
 unfold Cache.add rAdd Cache.has Cache.row;split <;> rfl
theorem remove_eq (c:Cfg) (s:Cache) (k:Int):s.remove c k=({ s with rows:=(rRemove c s.rows k).1 },(rRemove c s.rows k).2):=by
 unfold Cache.remove rRemove Cache.has Cache.row;split <;> rfl
theorem use_eq (c:Cfg) (s:Cache) (k:Int):s.use c k=({ s with rows:=(rUse c s.rows k).1 },(rUse c s.rows k).2):=by
 unfold Cache.use rUse
 rw[remove_eq]
 cases h:(rRemove c s.rows k).2 with
 | false=>simp
 | true=>simp[add_eq]
theorem victim_eq (c:Cfg) (s:Cache) (k p:Int):s.victim c k p=vicOf c s.rows k p:=rfl
theorem lose_eq (c:Cfg) (s:Cache) (k:Int):s.lose c k=(⟨(rRemove c s.rows k).1,upd s.tok k b0⟩,s.tok k):=by
 unfold Cache.lose
 rw[remove_eq]
end Go.Proofs.YtiebppkhaiofeaaGreat.K
namespace Go.Proofs.YtiebppkhaiofeaaGreat.K
open Go.RowKit Go.Proofs.YtiebppkhaiofeaaGreatW.PrintWords Go.Proofs.YtiebppkhaiofeaaGreat.S
attribute [local go_sem] World.cell?_alloc_some
open Go.ChangeMaps Go.MapKept
theorem notP0 {F:Set_} {w:cA} {g:Nat} (hg:w.heap.size≤g):¬ (fun x=>F x/\x < w.heap.size) g:=fun h=>by have:=h.2;omega
theorem notGr {P:Set_} {W:cA} {g:Nat} (h:¬ P g) (hg:g < W.heap.size):¬ gr P W g:=by
 rintro(h1 | h1)
 ·exact h h1
 ·omega
theorem Below.chain {w W W':cA} (h:Below w.heap.size w W) (k:Below W.heap.size W W'):Below w.heap.size w W':=h.trans (k.mono h.size)
theorem cacNew_any (c:Cfg) (hc:1≤c.sets/\c.sets≤64/\1≤c.ways/\c.ways≤16) (w:cA):bB dA 48 #[V I c.sets,V I c.ways] w fun e w'=>∃ b,e=.returned (bA (M ⟨b,0,U⟩))/\CacAt c Cache.new b (nw w) w'/\Below w.heap.size w w':=by
 have m1:=fun w:cA=>run_makeMap (P:=dA) 175 w
 go_enter Tryz.func48,Tryz.ntmps48
 go_wp2_with fail
 refine(linNew_any c hc w).mono ?_
 rintro e w1 ⟨bl,rfl,hL,hb⟩
 have HL:=AS hL
 have HB:=AS hb
 have hlt:=hL.lt
 clear hL hb
 go_wp2
 go_ret
 have hb2:Below w1.heap.size w1 ((w1.alloc (.map #[] 0)).alloc (O #[bA (M ⟨bl,0,U⟩),.map (M w1.heap.size)] 177)):=eA (eA (fA _ _) _) _
 have hs:=HB.out.size
 refine⟨_,rfl,(show CacB c Cache.new (w1.heap.size+1) bl w1.heap.size (nw w) _ from⟨fun x=>nw w x/\x < w1.heap.size,#[],0,_,?_,?_,IM.empty,fun k=>rfl,?_,?_,?_,vB,?_,?_,fun x hx=>hx.1⟩).at_,Below.chain HB.out hb2⟩
 ·have:=nA (w1.alloc (.map #[] 0)) (O #[bA (M ⟨bl,0,U⟩),.map (M w1.heap.size)] 177);simpa using this
 ·exact map_alloc (heap_alloc w1 _).1 _
 ·exact HL.out.keep (pB (fun _=>False) hb2) (fun x hx h=>⟨⟨h,hx⟩,id⟩)
 ·intro h;have:=h.2;omega
 ·intro h;have:=h.2;omega
 ·show w.heap.size≤_;omega
 ·show w.heap.size≤_;omega
theorem cacGet_any {c:Cfg} {s:Cache} {b bl bt:Nat} {F:Set_} {w:cA} (hC:CacB c s b bl bt F w) (k:Int):bB dA 134 #[bA (M ⟨b,0,U⟩),V I k] w (RV (bunV (s.tok k)) w):=by
 have c1:=cw hC.blk 1 (v:=.map (M bt))
 have hl:=(hC.below (eA (fA _ _) (O #[V I 0,aA false,aA false,V I 0] 45))).look k
 generalize s.tok k=y at *
 obtain⟨y0,y1,y2,y3⟩:=y
 simp only[bunV] at hl
 clear hC
 go_enter Tryz.func134,Tryz.ntmps134
 go_wp2
 exact yA (v:=bunV ⟨y0,y1,y2,y3⟩) (by simp[results,Tryz.results134,go_sem,bunV,]) rfl ⟨rfl,by repeat (first | with_reducible exact fA _ _ | with_reducible apply eA | with_reducible refine oA ?_ (by dsimp only;omega) _)⟩
theorem cacLose_any {c:Cfg} {s:Cache} {b bl bt:Nat} {F:Set_} {w:cA} (hC0:CacB c s b bl bt F w) (k:Int):bB dA 153 #[bA (M ⟨b,0,U⟩),V I k] w (CacP (bunV (s.lose c k).2) c (s.lose c k).1 b bl bt F w):=by
 rw[lose_eq]
 have hC:=hC0.trim
 have hB0:=lA hC.blk (O #[V I 0,aA false,aA false,V I 0] 45)
 have c1:=cw hB0 1 (v:=.map (M bt))
 have hl:=(hC.below (eA (fA _ _) (O #[V I 0,aA false,aA false,V I 0] 45))).look k
 have hbl:=hC.lt
 generalize hy:s.tok k=y at *
 obtain⟨y0,y1,y2,y3⟩:=y
 simp only[bunV] at hl
 have CW:=AS (hC.below (eA (eA (fA _ _) (O #[V I 0,aA false,aA false,V I 0] 45)) (O #[V I y0,aA y1,aA y2,V I y3] 45)))
 have XZ:=AS (lA (nA w (O #[V I 0,aA false,aA false,V I 0] 45)) (O #[V I y0,aA y1,aA y2,V I y3] 45))
 have XY:=AS (show((w.alloc (O #[V I 0,aA false,aA false,V I 0] 45)).alloc (O #[V I y0,aA y1,aA y2,V I y3] 45)).heap[w.heap.size+1]?=M (O #[V I y0,aA y1,aA y2,V I y3] 45) from by have:=nA (w.alloc (O #[V I 0,aA false,aA false,V I 0] 45)) (O #[V I y0,aA y1,aA y2,V I y3] 45);simpa using this)
 have CH:=AS (((Ch.refl F w).alloc (O #[V I 0,aA false,aA false,V I 0] 45)).alloc (O #[V I y0,aA y1,aA y2,V I y3] 45))
 clear hC hC0 hB0 hy
 go_enter Tryz.func153,Tryz.ntmps153
 go_upto_region 2 with fail
 clear hl c1
 generalize (w.alloc (O #[V I 0,aA false,aA false,V I 0] 45)).alloc (O #[V I y0,aA y1,aA y2,V I y3] 45)=W at CW XZ XY CH ⊢
 have c1:=cw CW.out.blk 1 (v:=.map (M bt))
 obtain⟨es,ck,hrun,hC1,hk1⟩:=CW.out.del k 3 0
 have C1:=AS hC1
 have XZ1:=AS (hk1.at_ XZ.out (notP0 (pA _)))
 have XY1:=AS (hk1.at_ XY.out (notP0 vB))
 have CH1:=AS (CH.out.same hk1)
 clear hC1 hk1
 go_upto_region 3 with fail
 clear hrun c1 CW XZ XY CH
 generalize aB W bt (.map es ck)=W2 at C1 XZ1 XY1 CH1 ⊢
 have c0:=cw C1.out.blk 0 (v:=bA (M ⟨bl,0,U⟩))
 obtain⟨Fl,hL,hstep⟩:=C1.out.lin
 go_wp2_with fail
 refine(linRemove_any hL k).mono ?_
 rintro e w3 ⟨rfl,hL3,hk3⟩
 obtain⟨hC3,hk4⟩:=hstep _ _ hL3 hk3
 have C3:=AS hC3
 have XZ3:=AS (hk4.at_ XZ1.out (notP0 (pA _)))
 have XY3:=AS (hk4.at_ XY1.out (notP0 vB))
 have CH3:=AS (CH1.out.op hk4)
 have N3:=AS (notGr (P:=fun x=>F x/\x < w.heap.size) (W:=W2) (notP0 (pA w.heap.size)) (eB XZ1.out))
 clear hC3 hk4 hL3 hk3 hL hstep c0 XZ1 XY1 CH1 C1
 have z0:=cw XZ3.out 0 (v:=V I 0)
 have z1:=cw XZ3.out 1 (v:=aA false)
 have z2:=cw XZ3.out 2 (v:=aA false)
 have z3:=cw XZ3.out 3 (v:=V I 0)
 have zz0:=jA XZ3.out 0
 have zz1:=jA XZ3.out 1
 have zz2:=jA XZ3.out 2
 have zz3:=jA XZ3.out 3
 have y_0:=cw XY3.out 0 (v:=V I y0)
 have y_1:=cw XY3.out 1 (v:=aA y1)
 have y_2:=cw XY3.out 2 (v:=aA y2)
 have y_3:=cw XY3.out 3 (v:=V I y3)
 go_wp2
 refine yA (v:=bunV ⟨y0,y1,y2,y3⟩) (by simp[results,Tryz.results153,go_sem,bunV,z0,z1,z2,z3]) rfl (CacP.of rfl (C3.out.keep (F':=gr (fun x=>F x/\x < w.heap.size) W2) (((((qB (fun x=>x=w.heap.size) _).set (g:=w.heap.size) (.inl rfl) 0 (V I y0)).set (g:=w.heap.size) (.inl rfl) 1 (aA y1)).set (g:=w.heap.size) (.inl rfl) 2 (aA y2)).set (g:=w.heap.size) (.inl rfl) 3 (V I y3)) (fun x hx h=>⟨h,fun e=>N3.out (e ▸ h)⟩)) ((((CH3.out.set (pA _) 0 (V I y0)).set (pA _) 1 (aA y1)).set (pA _) 2 (aA y2)).set (pA _) 3 (V I y3)))
theorem cacTake_any {c:Cfg} {s:Cache} {b bl bt:Nat} {F:Set_} {w:cA} (hC0:CacB c s b bl bt F w) (k n:Int) (o d:Bool):bB dA 135 #[bA (M ⟨b,0,U⟩),V I k,V I n,aA o,aA d] w (CacP (bunV (s.take c k n o d).2) c (s.take c k n o d).1 b bl bt F w):=by
 have hC:=hC0.trim
 have hB0:=lA hC.blk (O #[V I 0,aA false,aA false,V I 0] 45)
 have c1:=cw hB0 1 (v:=.map (M bt))
 have hl:=(hC.below (eA (fA _ _) (O #[V I 0,aA false,aA false,V I 0] 45))).look k
 have hbl:=hC.lt
 have htk:s.take c k n o d=if (split (s.tok k) n o d).2.count > 0 then ({ s with tok:=upd s.tok k (split (s.tok k) n o d).2 },(split (s.tok k) n o d).1) else ((s.lose c k).1,(split (s.tok k) n o d).1):=rfl
 generalize s.take c k n o d=tk at *
 generalize hy:s.tok k=y at *
 obtain⟨y0,y1,y2,y3⟩:=y
 generalize hsp:split ⟨y0,y1,y2,y3⟩ n o d=sp at *
 obtain⟨⟨s0,s1,s2,s3⟩,⟨r0,r1,r2,r3⟩⟩:=sp
 have HSP:=AS hsp
 have HTK:=AS htk
 simp only[bunV] at hl
 have CW:=AS (show ∀ W,Below w.heap.size w W->CacB c s b bl bt (fun x=>F x/\x < w.heap.size) W from fun W hb=>hC.below hb)
 have XZ:=AS (nA w (O #[V I 0,aA false,aA false,V I 0] 45))
 have BZ:=AS (eA (fA w.heap.size w) (O #[V I 0,aA false,aA false,V I 0] 45))
 clear hC hC0 hB0 hy hsp htk
 go_enter Tryz.func135,Tryz.ntmps135
 go_wp2_with fail
 refine(split_any _ _ _ _ _ _ _ _).mono ?_
 rintro e w1 ⟨rfl,hbe⟩
 rw[HSP.out]
 simp only[bunV]
 have B1:=AS (Below.chain BZ.out hbe)
 have XZ1:=AS (kA XZ.out hbe)
 have hs1:=hbe.size
 rw[rA] at hs1
 clear hbe hl c1 XZ BZ
 go_upto_region 2 with fail
 have hb2:Below w1.heap.size w1 ((w1.alloc (O #[V I s0,aA s1,aA s2,V I s3] 45)).alloc (O #[V I r0,aA r1,aA r2,V I r3] 45)):=eA (eA (fA _ _) _) _
 have B2:=AS (Below.chain B1.out hb2)
 have XZ2:=AS (kA XZ1.out hb2)
 have XS:=AS (lA (nA w1 (O #[V I s0,aA s1,aA s2,V I s3] 45)) (O #[V I r0,aA r1,aA r2,V I r3] 45))
 have XR:=AS (show((w1.alloc (O #[V I s0,aA s1,aA s2,V I s3] 45)).alloc (O #[V I r0,aA r1,aA r2,V I r3] 45)).heap[w1.heap.size+1]?=M (O #[V I r0,aA r1,aA r2,V I r3] 45) from by have:=nA (w1.alloc (O #[V I s0,aA s1,aA s2,V I s3] 45)) (O #[V I r0,aA r1,aA r2,V I r3] 45);simpa using this)
 clear hb2 B1 XZ1
 generalize (w1.alloc (O #[V I s0,aA s1,aA s2,V I s3] 45)).alloc (O #[V I r0,aA r1,aA r2,V I r3] 45)=W at B2 XZ2 XS XR ⊢
 have C2:=AS (CW.out W B2.out)
 have CH:=AS ((Ch.refl F w).below B2.out)
 clear CW
 have r_0:=cw XR.out 0 (v:=V I r0)
 have r_1:=cw XR.out 1 (v:=aA r1)
 have r_2:=cw XR.out 2 (v:=aA r2)
 have r_3:=cw XR.out 3 (v:=V I r3)
 by_cases hr:0 < r0
 ·have htk:=HTK.out
  rw[if_pos hr] at htk
  subst htk
  have c1:=cw C2.out.blk 1 (v:=.map (M bt))
  obtain⟨es,ck,hrun,hC3,hk3⟩:=(C2.out.below (iA (fA _ W))).put k ⟨r0,r1,r2,r3⟩
  have C3:=AS hC3
  have XZ3:=AS (hk3.at_ (fB XZ2.out) (notP0 (pA _)))
  have XS3:=AS (hk3.at_ (fB XS.out) (notP0 vB))
  have CH3:=AS (CH.out.drew.same hk3)
  have N3:=AS (notP0 (F:=F) (pA w.heap.size))
  simp only[bunV] at hrun
  clear hC3 hk3
  go_upto_region 3 with fail
  go_cut [10] (fun v10 wx=>v10=bA (M ⟨w.heap.size,0,U⟩)/\wx=aB W.drew bt (.map es ck))
  case first =>
   go_region
   all_goals
    go_wp2_with fail
    go_meet
    exact⟨rfl,rfl⟩
  case rest =>
   obtain⟨rfl,hw⟩:=hcut
   rw[<- hw] at C3 XZ3 XS3 CH3
   clear hw hrun c1 CH C2 XZ2 XS XR
   have z0:=cw XZ3.out 0 (v:=V I 0)
   have z1:=cw XZ3.out 1 (v:=aA false)
   have z2:=cw XZ3.out 2 (v:=aA false)
   have z3:=cw XZ3.out 3 (v:=V I 0)
   have zz0:=jA XZ3.out 0
   have zz1:=jA XZ3.out 1
   have zz2:=jA XZ3.out 2
   have zz3:=jA XZ3.out 3
   have s_0:=cw XS3.out 0 (v:=V I s0)
   have s_1:=cw XS3.out 1 (v:=aA s1)
   have s_2:=cw XS3.out 2 (v:=aA s2)
   have s_3:=cw XS3.out 3 (v:=V I s3)
   have hne:w.heap.size≠w1.heap.size:=vB
   go_wp2
   refine yA (v:=bunV ⟨s0,s1,s2,s3⟩) (by simp[results,Tryz.results135,go_sem,bunV,z0,z1,z2,z3,hne]) rfl (CacP.of rfl (C3.out.keep (F':=(fun x=>F x/\x < w.heap.size)) (((((qB (fun x=>x=w.heap.size) _).set (g:=w.heap.size) (.inl rfl) 0 (V I s0)).set (g:=w.heap.size) (.inl rfl) 1 (aA s1)).set (g:=w.heap.size) (.inl rfl) 2 (aA s2)).set (g:=w.heap.size) (.inl rfl) 3 (V I s3)) (fun x hx h=>⟨h,fun e=>N3.out (e ▸ h)⟩)) (((((CH3.out).set (pA _) 0 (V I s0)).set (pA _) 1 (aA s1)).set (pA _) 2 (aA s2)).set (pA _) 3 (V I s3)))
 ·have htk:=HTK.out
  rw[if_neg hr] at htk
  subst htk
  have hr':¬ (0 < r0):=hr
  have HLO:=AS (cacLose_any C2.out k)
  generalize (s.lose c k)=lo at *
  obtain⟨lo1,lo2⟩:=lo
  obtain⟨l0,l1,l2,l3⟩:=lo2
  simp only[bunV] at HLO
  go_wp2_with fail
  refine HLO.out.mono ?_
  rintro e w3 ⟨rfl,hC3,hk3⟩
  have C3:=AS hC3
  have XZ3:=AS (hk3.at_ XZ2.out (notP0 (pA _)))
  have XS3:=AS (hk3.at_ XS.out (notP0 vB))
  have CH3:=AS (CH.out.op hk3)
  have N3:=AS (notGr (P:=(fun x=>F x/\x < w.heap.size)) (W:=W) (notP0 (pA w.heap.size)) (eB XZ2.out))
  clear hC3 hk3 XZ2 XS XR CH C2 B2 HLO
  have z0:=cw XZ3.out 0 (v:=V I 0)
  have z1:=cw XZ3.out 1 (v:=aA false)
  have z2:=cw XZ3.out 2 (v:=aA false)
  have z3:=cw XZ3.out 3 (v:=V I 0)
  have zz0:=jA XZ3.out 0
  have zz1:=jA XZ3.out 1
  have zz2:=jA XZ3.out 2
  have zz3:=jA XZ3.out 3
  have s_0:=cw XS3.out 0 (v:=V I s0)
  have s_1:=cw XS3.out 1 (v:=aA s1)
  have s_2:=cw XS3.out 2 (v:=aA s2)
  have s_3:=cw XS3.out 3 (v:=V I s3)
  have hne:w.heap.size≠w1.heap.size:=vB
  go_wp2
  refine yA (v:=bunV ⟨s0,s1,s2,s3⟩) (by simp[results,Tryz.results135,go_sem,bunV,z0,z1,z2,z3,hne]) rfl (CacP.of rfl (C3.out.keep (F':=gr (fun x=>F x/\x < w.heap.size) W) (((((qB (fun x=>x=w.heap.size) _).set (g:=w.heap.size) (.inl rfl) 0 (V I s0)).set (g:=w.heap.size) (.inl rfl) 1 (aA s1)).set (g:=w.heap.size) (.inl rfl) 2 (aA s2)).set (g:=w.heap.size) (.inl rfl) 3 (V I s3)) (fun x hx h=>⟨h,fun e=>N3.out (e ▸ h)⟩)) (((((CH3.out).set (pA _) 0 (V I s0)).set (pA _) 1 (aA s1)).set (pA _) 2 (aA s2)).set (pA _) 3 (V I s3)))
def lineV (l:S.Line):Value:=.agg #[V I l.block,V I l.bun.count,aA l.bun.owner,aA l.bun.has,V I l.bun.data]
def absV (r:Option S.Line):Value:=.tuple #[lineV (r.getD ⟨0,b0⟩),aA r.isSome]
def tr (P:Set_) (w:cA):Set_:=fun x=>P x/\x < w.heap.size
def absK (c:Cfg) (s:Cache) (k:Int) (t:Bun) (p:Int):Cache×Option S.Line :=
 if (vicOf c s.rows k p).2=false then (s,M ⟨k,t⟩)
 else if (s.rows (imod (vicOf c s.rows k p).1 c.sets)).contains (vicOf c s.rows k p).1 then
  (⟨(rAdd c (rRemove c s.rows (vicOf c s.rows k p).1).1 k).1,upd (upd s.tok (vicOf c s.rows k p).1 b0) k t⟩,M ⟨(vicOf c s.rows k p).1,s.tok (vicOf c s.rows k p).1⟩)
 else (⟨(rAdd c s.rows k).1,upd s.tok k t⟩,U)
theorem absorb_eq (c:Cfg) (s:Cache) (k:Int) (t:Bun) (p:Int):s.absorb c k t p=if t.count < 1 then (s,U)
  else if (rUse c s.rows k).2 then (⟨(rUse c s.rows k).1,upd s.tok k (join (s.tok k) t)⟩,U) else absK c ⟨(rUse c s.rows k).1,s.tok⟩ k t p:=by
 unfold Cache.absorb absK
 rw[use_eq]
 by_cases h1:t.count < 1
 ·simp[h1]
 ·cases h2:(rUse c s.rows k).2 with
  | true=>simp[h1]
  | false =>
   simp only[h1,if_false,vA]
   rw[victim_eq]
   cases h3:(vicOf c (rUse c s.rows k).1 k p).2 with
   | false=>simp
   | true =>
    simp only[Bool.not_true,vA,if_false,if_true,reduceCtorEq,Cache.has,Cache.row,lose_eq,add_eq]
theorem cacAbsorb_any {c:Cfg} {s:Cache} {b bl bt:Nat} {F:Set_} {w:cA} (hC0:CacB c s b bl bt F w) (k:Int) (t0:Int) (t1 t2:Bool) (t3 p:Int):bB dA 131 #[bA (M ⟨b,0,U⟩),V I k,.agg #[V I t0,aA t1,aA t2,V I t3],V I p] w (CacP (absV (s.absorb c k ⟨t0,t1,t2,t3⟩ p).2) c (s.absorb c k ⟨t0,t1,t2,t3⟩ p).1 b bl bt F w):=by
 have hC:=hC0.trim
 have hab:=absorb_eq c s k ⟨t0,t1,t2,t3⟩ p
 generalize s.absorb c k ⟨t0,t1,t2,t3⟩ p=ab at *
 have HAB:=AS hab
 have hB2:Below w.heap.size w ((w.alloc (O #[V I t0,aA t1,aA t2,V I t3] 45)).alloc (O #[V I 0,V I 0,aA false,aA false,V I 0] 61)):=eA (eA (fA _ _) _) _
 have CW:=AS (hC.below hB2)
 have XB:=AS (lA (nA w (O #[V I t0,aA t1,aA t2,V I t3] 45)) (O #[V I 0,V I 0,aA false,aA false,V I 0] 61))
 have XL:=AS (show((w.alloc (O #[V I t0,aA t1,aA t2,V I t3] 45)).alloc (O #[V I 0,V I 0,aA false,aA false,V I 0] 61)).heap[w.heap.size+1]?=M (O #[V I 0,V I 0,aA false,aA false,V I 0] 61) from by have:=nA (w.alloc (O #[V I t0,aA t1,aA t2,V I t3] 45)) (O #[V I 0,V I 0,aA false,aA false,V I 0] 61);simpa using this)
 have CH:=AS ((Ch.refl F w).below hB2)
 have hbl:=hC.lt
 clear hC hC0 hB2 hab
 go_enter Tryz.func131,Tryz.ntmps131
 go_upto_region 1 with fail
 generalize (w.alloc (O #[V I t0,aA t1,aA t2,V I t3] 45)).alloc (O #[V I 0,V I 0,aA false,aA false,V I 0] 61)=W at CW XB XL CH ⊢
 have t_0:=cw XB.out 0 (v:=V I t0)
 have t_1:=cw XB.out 1 (v:=aA t1)
 have t_2:=cw XB.out 2 (v:=aA t2)
 have t_3:=cw XB.out 3 (v:=V I t3)
 have l_0:=cw XL.out 0 (v:=V I 0)
 have l_1:=cw XL.out 1 (v:=V I 0)
 have l_2:=cw XL.out 2 (v:=aA false)
 have l_3:=cw XL.out 3 (v:=aA false)
 have l_4:=cw XL.out 4 (v:=V I 0)
 have lz0:=jA XL.out 0
 have lz1:=jA XL.out 1
 have lz2:=jA XL.out 2
 have lz3:=jA XL.out 3
 have lz4:=jA XL.out 4
 by_cases q1:t0 < 1
 ·have hab:=HAB.out
  rw[if_pos q1] at hab
  subst hab
  have N0:=AS (notP0 (F:=F) (w:=w) (g:=w.heap.size+1) vB)
  go_wp2
  refine yA (v:=absV U) (by simp[results,Tryz.results131,go_sem,absV,lineV,b0,l_0,l_1,l_2,l_3,l_4]) rfl (CacP.of rfl (CW.out.keep (F':=(fun x=>F x/\x < w.heap.size)) ((((((qB (fun x=>x=w.heap.size+1) _).set (g:=w.heap.size+1) (.inl rfl) 0 (V I 0)).set (g:=w.heap.size+1) (.inl rfl) 1 (V I 0)).set (g:=w.heap.size+1) (.inl rfl) 2 (aA false)).set (g:=w.heap.size+1) (.inl rfl) 3 (aA false)).set (g:=w.heap.size+1) (.inl rfl) 4 (V I 0)) (fun x hx h=>⟨h,fun e=>N0.out (e ▸ h)⟩)) ((((((CH.out).set (g:=w.heap.size+1) (Nat.le_succ _) 0 (V I 0)).set (g:=w.heap.size+1) (Nat.le_succ _) 1 (V I 0)).set (g:=w.heap.size+1) (Nat.le_succ _) 2 (aA false)).set (g:=w.heap.size+1) (Nat.le_succ _) 3 (aA false)).set (g:=w.heap.size+1) (Nat.le_succ _) 4 (V I 0)))
 ·have hab:=HAB.out
  rw[if_neg q1] at hab
  have HAB2:=AS hab
  clear hab HAB
  have c0:=cw CW.out.blk 0 (v:=bA (M ⟨bl,0,U⟩))
  obtain⟨Fl,hL,hstep⟩:=CW.out.lin
  go_upto_region 3 with fail
  go_wp2_with fail
  refine(linUse_any hL k).mono ?_
  rintro e w1 ⟨rfl,hL3,hk3⟩
  obtain⟨hC3,hk4⟩:=hstep _ _ hL3 hk3
  have C3:=AS hC3
  have XB3:=AS (hk4.at_ XB.out (notP0 (pA _)))
  have XL3:=AS (hk4.at_ XL.out (notP0 vB))
  have CH3:=AS (CH.out.op hk4)
  have N3:=AS (notGr (P:=(fun x=>F x/\x < w.heap.size)) (W:=W) (notP0 (by omega:w.heap.size≤w.heap.size+1)) (eB XL.out))
  have NB3:=AS (notGr (P:=(fun x=>F x/\x < w.heap.size)) (W:=W) (notP0 (pA w.heap.size)) (eB XB.out))
  have hab:=HAB2.out
  generalize hru:rUse c s.rows k=ru at *
  obtain⟨rows1,ok1⟩:=ru
  clear hC3 hk4 hL3 hk3 hL hstep HAB2 hru c0 t_0 t_1 t_2 t_3 l_0 lz0 l_1 lz1 l_2 lz2 l_3 lz3 l_4 lz4
  generalize hP1:gr (fun x=>F x/\x < w.heap.size) W=P1 at C3 CH3 N3 NB3
  clear XB XL CH CW hP1
  have C3:Aside0 (CacB c ⟨rows1,s.tok⟩ b bl bt P1 w1):=C3
  cases ok1
  ·simp only[vA,if_false] at hab
   have hk0:absK c ⟨rows1,s.tok⟩ k ⟨t0,t1,t2,t3⟩ p=if (vicOf c rows1 k p).2=false then (⟨rows1,s.tok⟩,M ⟨k,⟨t0,t1,t2,t3⟩⟩)
     else if (rows1 (imod (vicOf c rows1 k p).1 c.sets)).contains (vicOf c rows1 k p).1 then
      (⟨(rAdd c (rRemove c rows1 (vicOf c rows1 k p).1).1 k).1,upd (upd s.tok (vicOf c rows1 k p).1 b0) k ⟨t0,t1,t2,t3⟩⟩,M ⟨(vicOf c rows1 k p).1,s.tok (vicOf c rows1 k p).1⟩)
     else (⟨(rAdd c rows1 k).1,upd s.tok k ⟨t0,t1,t2,t3⟩⟩,U):=rfl
   rw[hk0] at hab
   clear hk0
   have c0:=cw C3.out.blk 0 (v:=bA (M ⟨bl,0,U⟩))
   obtain⟨Fl1,hL1,-⟩:=C3.out.lin
   have HV:=AS (linVictim_any hL1 k p)
   generalize vicOf c rows1 k p=vi at *
   obtain⟨v1,v2⟩:=vi
   have HAB3:=AS hab
   clear hab hL1
   go_wp2_with fail
   refine HV.out.mono ?_
   rintro e w2 ⟨rfl,m,rfl⟩
   clear HV c0
   cases v2
   ·have hab:=HAB3.out
    simp only[if_true] at hab
    subst hab
    have t_0:=cw XB3.out 0 (v:=V I t0)
    have t_1:=cw XB3.out 1 (v:=aA t1)
    have t_2:=cw XB3.out 2 (v:=aA t2)
    have t_3:=cw XB3.out 3 (v:=V I t3)
    have l_0:=cw XL3.out 0 (v:=V I 0)
    have l_1:=cw XL3.out 1 (v:=V I 0)
    have l_2:=cw XL3.out 2 (v:=aA false)
    have l_3:=cw XL3.out 3 (v:=aA false)
    have l_4:=cw XL3.out 4 (v:=V I 0)
    have lz0:=jA XL3.out 0
    have lz1:=jA XL3.out 1
    have lz2:=jA XL3.out 2
    have lz3:=jA XL3.out 3
    have lz4:=jA XL3.out 4
    have CD:=AS (C3.out.below (bdN w1 m))
    have CHD:=AS (CH3.out.below (bdN w1 m))
    go_wp2
    refine yA (v:=absV (M ⟨k,⟨t0,t1,t2,t3⟩⟩)) (by simp[results,Tryz.results131,go_sem,absV,lineV,b0,l_0,l_1,l_2,l_3,l_4]) rfl (CacP.of rfl (CD.out.keep (F':=P1) ((((((qB (fun x=>x=w.heap.size+1) _).set (g:=w.heap.size+1) (.inl rfl) 0 (V I k)).set (g:=w.heap.size+1) (.inl rfl) 1 (V I t0)).set (g:=w.heap.size+1) (.inl rfl) 2 (aA t1)).set (g:=w.heap.size+1) (.inl rfl) 3 (aA t2)).set (g:=w.heap.size+1) (.inl rfl) 4 (V I t3)) (fun x hx h=>⟨h,fun e=>N3.out (e ▸ h)⟩)) ((((((CHD.out).set (g:=w.heap.size+1) (Nat.le_succ _) 0 (V I k)).set (g:=w.heap.size+1) (Nat.le_succ _) 1 (V I t0)).set (g:=w.heap.size+1) (Nat.le_succ _) 2 (aA t1)).set (g:=w.heap.size+1) (Nat.le_succ _) 3 (aA t2)).set (g:=w.heap.size+1) (Nat.le_succ _) 4 (V I t3)))
   ·have hab:=HAB3.out
    simp only[reduceCtorEq,if_false] at hab
    have HAB4:=AS hab
    clear hab HAB3
    have hB2:Below w1.heap.size w1 ((w1.drewN m).alloc (O #[V I 0,V I 0,aA false,aA false,V I 0] 61)):=eA (bdN w1 m) _
    have C4:Aside0 (CacB c ⟨rows1,s.tok⟩ b bl bt (tr P1 w1) ((w1.drewN m).alloc (O #[V I 0,V I 0,aA false,aA false,V I 0] 61))):=⟨C3.out.trim.below hB2⟩
    have XB4:=AS (kA XB3.out hB2)
    have XL4:=AS (kA XL3.out hB2)
    have XO4:=AS (show((w1.drewN m).alloc (O #[V I 0,V I 0,aA false,aA false,V I 0] 61)).heap[w1.heap.size]?=M (O #[V I 0,V I 0,aA false,aA false,V I 0] 61) from nA (w1.drewN m) (O #[V I 0,V I 0,aA false,aA false,V I 0] 61))
    have CH4:Aside0 (Ch F w (tr P1 w1) ((w1.drewN m).alloc (O #[V I 0,V I 0,aA false,aA false,V I 0] 61))):=⟨CH3.out.trim.below hB2⟩
    have hs14:w.heap.size+1 < w1.heap.size:=eB XL3.out
    have N4:=AS (show ¬ tr P1 w1 (w.heap.size+1) from fun h=>N3.out h.1)
    have NB4:=AS (show ¬ tr P1 w1 w.heap.size from fun h=>NB3.out h.1)
    have NO4:=AS (show ¬ tr P1 w1 w1.heap.size from fun h=>by have:=h.2;omega)
    go_upto_region 10 with fail
    clear hB2
    generalize tr P1 w1=P2 at C4 CH4 N4 NB4 NO4
    generalize (w1.drewN m).alloc (O #[V I 0,V I 0,aA false,aA false,V I 0] 61)=W4 at C4 XB4 XL4 XO4 CH4 ⊢
    clear XB3 XL3 CH3 N3 NB3 C3
    have c0:=cw C4.out.blk 0 (v:=bA (M ⟨bl,0,U⟩))
    obtain⟨Fl2,hL2,-⟩:=C4.out.lin
    have HH:=AS (linHas_any hL2 v1)
    simp only at HH
    generalize (rows1 (imod v1 c.sets)).contains v1=hb at *
    clear hL2
    go_wp2_with fail
    refine HH.out.mono ?_
    rintro e w5 ⟨rfl,m5,rfl⟩
    clear HH c0
    go_upto_if 59 with fail
    have C5:=AS (C4.out.below (bdN W4 m5))
    have CH5:=AS (CH4.out.below (bdN W4 m5))
    have XB5:=AS (kA XB4.out (bdN W4 m5))
    have XL5:=AS (kA XL4.out (bdN W4 m5))
    have XO5:=AS (kA XO4.out (bdN W4 m5))
    generalize W4.drewN m5=W5 at C5 CH5 XB5 XL5 XO5 ⊢
    clear C4 CH4 XB4 XL4 XO4
    have hso:=eB XO5.out
    go_cut [13] (fun v13 wx=>v13=aA hb/\∃ (P3:Set_) (s3:Cache) (o0 o1:Int) (o2 o3:Bool) (o4:Int),ab=(⟨(rAdd c s3.rows k).1,upd s3.tok k ⟨t0,t1,t2,t3⟩⟩,if hb then M ⟨o0,⟨o1,o2,o3,o4⟩⟩ else U)/\(hb=false->o0=0/\o1=0/\o2=false/\o3=false/\o4=0)/\CacB c s3 b bl bt P3 wx/\Ch F w P3 wx/\¬ P3 (w.heap.size+1)/\¬ P3 w.heap.size/\¬ P3 w1.heap.size/\wx.heap[w.heap.size]?=M (O #[V I t0,aA t1,aA t2,V I t3] 45)/\wx.heap[w.heap.size+1]?=M (O #[V I 0,V I 0,aA false,aA false,V I 0] 61)/\wx.heap[w1.heap.size]?=M (O #[V I o0,V I o1,aA o2,aA o3,V I o4] 61))
    case first =>
     cases hb
     ·go_wp2_with fail
      go_meet
      exact⟨rfl,P2,⟨rows1,s.tok⟩,0,0,false,false,0,by have:=HAB4.out;simpa using this,fun _=>⟨rfl,rfl,rfl,rfl,rfl⟩,C5.out,CH5.out,N4.out,NB4.out,NO4.out,XB5.out,XL5.out,XO5.out⟩
     ·have HLO:=AS (cacLose_any C5.out v1)
      simp only[lose_eq] at HLO
      generalize hyy:s.tok v1=yy at *
      obtain⟨z0,z1,z2,z3⟩:=yy
      simp only[bunV] at HLO
      go_wp2_with fail
      refine HLO.out.mono ?_
      rintro e w6 ⟨rfl,hC6,hk6⟩
      have C6:=AS hC6
      have CH6:=AS (CH5.out.op hk6)
      have XB6:=AS (hk6.at_ XB5.out NB4.out)
      have XL6:=AS (hk6.at_ XL5.out N4.out)
      have XO6:=AS (hk6.at_ XO5.out NO4.out)
      have N6:=AS (notGr (W:=W5) N4.out (eB XL5.out))
      have NB6:=AS (notGr (W:=W5) NB4.out (eB XB5.out))
      have NO6:=AS (notGr (W:=W5) NO4.out hso)
      clear hC6 hk6 HLO
      have o_0:=cw XO6.out 0 (v:=V I 0)
      have o_1:=cw XO6.out 1 (v:=V I 0)
      have o_2:=cw XO6.out 2 (v:=aA false)
      have o_3:=cw XO6.out 3 (v:=aA false)
      have o_4:=cw XO6.out 4 (v:=V I 0)
      have oz0:=jA XO6.out 0
      have oz1:=jA XO6.out 1
      have oz2:=jA XO6.out 2
      have oz3:=jA XO6.out 3
      have oz4:=jA XO6.out 4
      go_wp2_with fail
      go_meet
      have hk7:=(((((qB (fun x=>x=w1.heap.size) w6).set (g:=w1.heap.size) (.inl rfl) 0 (V I v1)).set (g:=w1.heap.size) (.inl rfl) 1 (V I z0)).set (g:=w1.heap.size) (.inl rfl) 2 (aA z1)).set (g:=w1.heap.size) (.inl rfl) 3 (aA z2)).set (g:=w1.heap.size) (.inl rfl) 4 (V I z3)
      have hle:w.heap.size≤w1.heap.size:=vB
      refine⟨rfl,gr P2 W5,⟨(rRemove c rows1 v1).1,upd s.tok v1 b0⟩,v1,z0,z1,z2,z3,by have:=HAB4.out;simpa using this,fun h=>by simp at h,?_,?_,N6.out,NB6.out,NO6.out,?_,?_,?_⟩
      ·exact C6.out.keep hk7 (fun x hx h=>⟨h,fun e=>NO6.out (e ▸ h)⟩)
      ·exact((((CH6.out.set hle 0 (V I v1)).set hle 1 (V I z0)).set hle 2 (aA z1)).set hle 3 (aA z2)).set hle 4 (V I z3)
      ·exact hk7.at_ XB6.out (by show ¬ _=_;omega)
      ·exact hk7.at_ XL6.out (by show ¬ _=_;omega)
      ·exact(mA (mA (mA (mA (mA XO6.out 0 _) 1 _) 2 _) 3 _) 4 _).trans zB
    case rest =>
     obtain⟨rfl,P3,s3,o0,o1,o2,o3,o4,hab,hz,hC6,hCH6,hn1,hn2,hn3,hx1,hx2,hx3⟩:=hcut
     have C6:=AS hC6
     have CH6:=AS hCH6
     have N6:=AS (qA hn1 (qA hn2 hn3))
     have X6:=AS (qA hx1 (qA hx2 hx3))
     have HABZ:=AS (qA hab hz)
     clear hab hz hC6 hCH6 hn1 hn2 hn3 hx1 hx2 hx3 C5 CH5 XB5 XL5 XO5 HAB4 N4 NB4 NO4
     have c0:=cw C6.out.blk 0 (v:=bA (M ⟨bl,0,U⟩))
     obtain⟨Fl3,hL3,hstep3⟩:=C6.out.lin
     have HA:=AS (linAdd_any hL3 k)
     have ST:=AS hstep3
     clear hL3 hstep3
     go_wp2_with fail
     refine HA.out.mono ?_
     rintro e w7 ⟨rfl,hL7,hk7⟩
     obtain⟨hC7,hk8⟩:=ST.out _ _ hL7 hk7
     have C7:=AS hC7
     have CH7:=AS (CH6.out.op hk8)
     have XB7:=AS (hk8.at_ X6.out.1 N6.out.2.1)
     have XL7:=AS (hk8.at_ X6.out.2.1 N6.out.1)
     have XO7:=AS (hk8.at_ X6.out.2.2 N6.out.2.2)
     have N7:=AS (notGr (W:=wc) N6.out.1 (eB X6.out.2.1))
     have NB7:=AS (notGr (W:=wc) N6.out.2.1 (eB X6.out.1))
     have NO7:=AS (notGr (W:=wc) N6.out.2.2 (eB X6.out.2.2))
     clear hL7 hk7 hC7 hk8 HA ST c0
     generalize gr P3 wc=P4 at C7 CH7 N7 NB7 NO7
     have c1:=cw C7.out.blk 1 (v:=.map (M bt))
     have t_0:=cw XB7.out 0 (v:=V I t0)
     have t_1:=cw XB7.out 1 (v:=aA t1)
     have t_2:=cw XB7.out 2 (v:=aA t2)
     have t_3:=cw XB7.out 3 (v:=V I t3)
     obtain⟨es,ck,hrun,hC8,hk8⟩:=(C7.out.below (iA (fA _ w7))).put k ⟨t0,t1,t2,t3⟩
     have C8:=AS hC8
     have CH8:=AS (CH7.out.drew.same hk8)
     have XL8:=AS (hk8.at_ (fB XL7.out) N7.out)
     have XO8:=AS (hk8.at_ (fB XO7.out) NO7.out)
     simp only[bunV] at hrun
     clear hC8 hk8
     go_upto_region 14 with fail
     go_cut [13] (fun v13 wx=>v13=aA hb/\wx=aB w7.drew bt (.map es ck))
     case first =>
      go_region
      all_goals
       go_wp2_with fail
       go_meet
       exact⟨rfl,rfl⟩
     case rest =>
      obtain⟨rfl,hw⟩:=hcut
      rw[<- hw] at C8 CH8 XL8 XO8
      clear hw hrun c1 t_0 t_1 t_2 t_3
      have l_0:=cw XL8.out 0 (v:=V I 0)
      have l_1:=cw XL8.out 1 (v:=V I 0)
      have l_2:=cw XL8.out 2 (v:=aA false)
      have l_3:=cw XL8.out 3 (v:=aA false)
      have l_4:=cw XL8.out 4 (v:=V I 0)
      have lz0:=jA XL8.out 0
      have lz1:=jA XL8.out 1
      have lz2:=jA XL8.out 2
      have lz3:=jA XL8.out 3
      have lz4:=jA XL8.out 4
      have o_0:=cw XO8.out 0 (v:=V I o0)
      have o_1:=cw XO8.out 1 (v:=V I o1)
      have o_2:=cw XO8.out 2 (v:=aA o2)
      have o_3:=cw XO8.out 3 (v:=aA o3)
      have o_4:=cw XO8.out 4 (v:=V I o4)
      have hne:w.heap.size+1≠w1.heap.size:=vB
      have hab:=HABZ.out.1
      have HZ:=AS HABZ.out.2
      subst hab
      have C8':Aside0 (CacB c ⟨(rAdd c s3.rows k).1,upd s3.tok k ⟨t0,t1,t2,t3⟩⟩ b bl bt P4 wc):=⟨C8.out⟩
      cases hb
      ·obtain⟨rfl,rfl,rfl,rfl,rfl⟩:=HZ.out rfl
       go_wp2
       refine yA (v:=absV U) (by simp[results,Tryz.results131,go_sem,absV,lineV,b0,l_0,l_1,l_2,l_3,l_4,hne]) rfl (CacP.of rfl (C8'.out.keep (F':=P4) ((((((qB (fun x=>x=w.heap.size+1) _).set (g:=w.heap.size+1) (.inl rfl) 0 (V I 0)).set (g:=w.heap.size+1) (.inl rfl) 1 (V I 0)).set (g:=w.heap.size+1) (.inl rfl) 2 (aA false)).set (g:=w.heap.size+1) (.inl rfl) 3 (aA false)).set (g:=w.heap.size+1) (.inl rfl) 4 (V I 0)) (fun x hx h=>⟨h,fun e=>N7.out (e ▸ h)⟩)) ((((((CH8.out).set (g:=w.heap.size+1) (Nat.le_succ _) 0 (V I 0)).set (g:=w.heap.size+1) (Nat.le_succ _) 1 (V I 0)).set (g:=w.heap.size+1) (Nat.le_succ _) 2 (aA false)).set (g:=w.heap.size+1) (Nat.le_succ _) 3 (aA false)).set (g:=w.heap.size+1) (Nat.le_succ _) 4 (V I 0)))
      ·go_wp2
       refine yA (v:=absV (M ⟨o0,⟨o1,o2,o3,o4⟩⟩)) (by simp[results,Tryz.results131,go_sem,absV,lineV,b0,l_0,l_1,l_2,l_3,l_4,hne]) rfl (CacP.of rfl (C8'.out.keep (F':=P4) ((((((qB (fun x=>x=w.heap.size+1) _).set (g:=w.heap.size+1) (.inl rfl) 0 (V I o0)).set (g:=w.heap.size+1) (.inl rfl) 1 (V I o1)).set (g:=w.heap.size+1) (.inl rfl) 2 (aA o2)).set (g:=w.heap.size+1) (.inl rfl) 3 (aA o3)).set (g:=w.heap.size+1) (.inl rfl) 4 (V I o4)) (fun x hx h=>⟨h,fun e=>N7.out (e ▸ h)⟩)) ((((((CH8.out).set (g:=w.heap.size+1) (Nat.le_succ _) 0 (V I o0)).set (g:=w.heap.size+1) (Nat.le_succ _) 1 (V I o1)).set (g:=w.heap.size+1) (Nat.le_succ _) 2 (aA o2)).set (g:=w.heap.size+1) (Nat.le_succ _) 3 (aA o3)).set (g:=w.heap.size+1) (Nat.le_succ _) 4 (V I o4)))
  ·simp only[if_true] at hab
   subst hab
   generalize hy:s.tok k=y at *
   obtain⟨y0,y1,y2,y3⟩:=y
   have HY:=AS hy
   generalize hjn:join ⟨y0,y1,y2,y3⟩ ⟨t0,t1,t2,t3⟩=jn
   obtain⟨j0,j1,j2,j3⟩:=jn
   have HJ:=AS hjn
   clear hy hjn
   go_upto_region 4 with fail
   go_cut [9] (fun v9 wx=>v9=aA false/\CacB c ⟨rows1,upd s.tok k ⟨j0,j1,j2,j3⟩⟩ b bl bt P1 wx/\Ch F w P1 wx/\wx.heap[w.heap.size+1]?=M (O #[V I 0,V I 0,aA false,aA false,V I 0] 61))
   case first =>
    have KEEP:=AS (show ∀ x,Below w1.heap.size w1 x->(fun x=>x.cell? ⟨w.heap.size,0,U⟩=M (V I t0)/\x.cell? ⟨w.heap.size,1,U⟩=M (aA t1)/\x.cell? ⟨w.heap.size,2,U⟩=M (aA t2)/\x.cell? ⟨w.heap.size,3,U⟩=M (V I t3)/\x.cell? ⟨b,1,U⟩=M (.map (M bt))) x from fun x hb=>⟨cw (kA XB3.out hb) 0,cw (kA XB3.out hb) 1,cw (kA XB3.out hb) 2,cw (kA XB3.out hb) 3,cw (C3.out.below hb).blk 1⟩)
    have hlk:=(C3.out.below (iA (fA _ w1))).look k
    rw[show(⟨rows1,s.tok⟩:Cache).tok k=s.tok k from rfl,HY.out] at hlk
    simp only[bunV] at hlk
    go_region_held3 (fun x=>x.cell? ⟨w.heap.size,0,U⟩=M (V I t0)/\x.cell? ⟨w.heap.size,1,U⟩=M (aA t1)/\x.cell? ⟨w.heap.size,2,U⟩=M (aA t2)/\x.cell? ⟨w.heap.size,3,U⟩=M (V I t3)/\x.cell? ⟨b,1,U⟩=M (.map (M bt))) (first | exact E4.out | exact KEEP.out _ (by (repeat (first | with_reducible exact fA _ _ | with_reducible exact B1.out | with_reducible apply eA | with_reducible apply iA | refine oA ?_ (by dsimp only;omega) _)))) ((first | (go_at_call 146;refine(join_any _ _ _ _ _ _ _ _ w1.drew).mono ?_;rintro e w2 ⟨rfl,hbe⟩;rw[HJ.out];simp only[bunV];have B1:=AS (show Below w1.heap.size w1 w2 from(iA (fA _ _)).trans (hbe.mono (pA _)));clear hbe;obtain⟨es,ck,hrun,hC4,hk4⟩:=(C3.out.below B1.out).put k ⟨j0,j1,j2,j3⟩;simp only[bunV] at hrun;have P4:=AS (qA hC4 hk4);have XB9:=AS (hk4.at_ (kA XB3.out B1.out) NB3.out);have E4:=AS (show(fun x=>x.cell? ⟨w.heap.size,0,U⟩=M (V I t0)/\x.cell? ⟨w.heap.size,1,U⟩=M (aA t1)/\x.cell? ⟨w.heap.size,2,U⟩=M (aA t2)/\x.cell? ⟨w.heap.size,3,U⟩=M (V I t3)/\x.cell? ⟨b,1,U⟩=M (.map (M bt))) (aB w2 bt (.map es ck)) from⟨cw XB9.out 0,cw XB9.out 1,cw XB9.out 2,cw XB9.out 3,cw hC4.blk 1⟩);clear hC4 hk4)))
    all_goals
     go_wp2_with fail
     go_meet
     exact⟨rfl,P4.out.1,(CH3.out.below B1.out).same P4.out.2,P4.out.2.at_ (kA XL3.out B1.out) N3.out⟩
   case rest =>
    obtain⟨rfl,hC5,hCH5,hx5⟩:=hcut
    have C5:Aside0 (CacB c ⟨rows1,upd s.tok k (join ⟨y0,y1,y2,y3⟩ ⟨t0,t1,t2,t3⟩)⟩ b bl bt P1 wc):=⟨by rw[HJ.out];exact hC5⟩
    have CH5:=AS hCH5
    have XL5:=AS hx5
    clear hC5 hCH5 hx5
    have l_0:=cw XL5.out 0 (v:=V I 0)
    have l_1:=cw XL5.out 1 (v:=V I 0)
    have l_2:=cw XL5.out 2 (v:=aA false)
    have l_3:=cw XL5.out 3 (v:=aA false)
    have l_4:=cw XL5.out 4 (v:=V I 0)
    have lz0:=jA XL5.out 0
    have lz1:=jA XL5.out 1
    have lz2:=jA XL5.out 2
    have lz3:=jA XL5.out 3
    have lz4:=jA XL5.out 4
    go_wp2
    refine yA (v:=absV U) (by simp[results,Tryz.results131,go_sem,absV,lineV,b0,l_0,l_1,l_2,l_3,l_4]) rfl (CacP.of rfl (C5.out.keep (F':=P1) ((((((qB (fun x=>x=w.heap.size+1) _).set (g:=w.heap.size+1) (.inl rfl) 0 (V I 0)).set (g:=w.heap.size+1) (.inl rfl) 1 (V I 0)).set (g:=w.heap.size+1) (.inl rfl) 2 (aA false)).set (g:=w.heap.size+1) (.inl rfl) 3 (aA false)).set (g:=w.heap.size+1) (.inl rfl) 4 (V I 0)) (fun x hx h=>⟨h,fun e=>N3.out (e ▸ h)⟩)) ((((((CH5.out).set (g:=w.heap.size+1) (Nat.le_succ _) 0 (V I 0)).set (g:=w.heap.size+1) (Nat.le_succ _) 1 (V I 0)).set (g:=w.heap.size+1) (Nat.le_succ _) 2 (aA false)).set (g:=w.heap.size+1) (Nat.le_succ _) 3 (aA false)).set (g:=w.heap.size+1) (Nat.le_succ _) 4 (V I 0)))
end Go.Proofs.YtiebppkhaiofeaaGreat.K
