/- Part of the proof of TopPolicies: what functions of the program do. -/
import Derived.RangeFuncNested
import Derived.RangeFuncBound
import Derived.RangeFuncCalls
import Derived.RangeFuncLeaves
import Derived.Shelf.Abstract
import Derived.Shelf.RegionOpen
import Derived.OwnWalkIn
import Derived.TacticsInMore
import Derived.LoopNIn
import Derived.LoopIn
import Derived.Test.YtiebppkhaiofeaaGreatP28
import Derived.Test.YtiebppkhaiofeaaGreatP00
set_option maxHeartbeats 4000000
set_option maxRecDepth 100000
set_option linter.unusedVariables false
set_option linter.unusedSimpArgs false
open Go.IntKind renaming i64→I
open Go.Value renaming slice→J, int→V, bool→aA, pointer→bA
open Option renaming some→M, none→U
open Go.Obj renaming cells→O
open Go renaming Calls→bB, World→cA, bodyPost_ret→yA
open List renaming getD_eq_getElem?_getD→cB, getElem?_eq_getElem→dB
open Go.Proofs.Tryz renaming prog→dA
open Go.Proofs.YtiebppkhaiofeaaGreatW.PrintWords renaming below_alloc→eA, blk_lt→eB, blk_below→kA, blk_alloc→lA, blk_new→nA
open Go.RowKit.Below renaming refl→fA
open Nat renaming le_trans→lB, le_refl→pA
open Go.Proofs.YtiebppkhaiofeaaGreat.K.KS renaming below→pB, refl→qB
open And renaming intro→qA
open Go.World renaming size_alloc→rA
namespace Go.Proofs.YtiebppkhaiofeaaGreat.K
open Go.RowKit Go.Proofs.YtiebppkhaiofeaaGreatW.PrintWords Go.Proofs.YtiebppkhaiofeaaGreat.S
attribute [local go_sem] World.cell?_alloc_some
open Go.ChangeMaps Go.MapKept
open Go.Shelf
attribute [local go_sem] Oper.semAt_some
def lnsB (k:Int) (ls:List S.Line):List Bun:=(ls.filter fun l=>l.block == k).map (·.bun)
def letsB (k:Int) (fl:List Let):List Bun:=(fl.filter fun x=>x.kind == 1 && x.block == k).map (·.bun)
def homB (k:Int) (hs:List Bun):List Bun:=if 0≤k/\k < hs.length then [hs.getD k.toNat b0] else []
theorem lnsB_step (k:Int) (ls:List S.Line) {j:Nat} (h:j < ls.length):lnsB k (ls.drop j)=if (ls.getD j lineE.d).block=k then (ls.getD j lineE.d).bun :: lnsB k (ls.drop (j+1)) else lnsB k (ls.drop (j+1)):=by
 rw[List.drop_eq_getElem_cons h,cB,dB h,Option.getD_some]
 unfold lnsB
 rw[List.filter_cons]
 by_cases e:ls[j].block=k
 ·rw[if_pos (by simpa using e),if_pos e];rfl
 ·rw[if_neg (by simpa using e),if_neg e]
theorem letsB_step (k:Int) (fl:List Let) {j:Nat} (h:j < fl.length):letsB k (fl.drop j)=if (fl.getD j letE.d).kind=1/\(fl.getD j letE.d).block=k then (fl.getD j letE.d).bun :: letsB k (fl.drop (j+1)) else letsB k (fl.drop (j+1)):=by
 rw[List.drop_eq_getElem_cons h,cB,dB h,Option.getD_some]
 unfold letsB
 rw[List.filter_cons]
 by_cases e:fl[j].kind=1/\fl[j].block=k
 ·rw[if_pos (by simpa using e),if_pos e];rfl
 ·rw[if_neg (by simpa using e),if_neg e]
structure ShotR (st ti:Int) (Ap Ah Af:Option Addr) (cp ch cf:Nat) (ps:List PlaceR) (lss:List (List S.Line)) (hs:List Bun) (fl:List Let) (bs bb:Nat) (k:Int) (G:Set_) (w:cA):Prop where
 box:w.heap[bs]?=M (O #[V I st,V I ti,J Ap ps.length cp,J Ah hs.length ch,J Af fl.length cf] 41 (0,0))
 boxk:w.heap[bb]?=M (O #[V I k] 3 (0,0))
 pls:OwnE placeE (J Ap ps.length cp) ps w
 len:lss.length=ps.length
 lns:∀ i:Nat,i < ps.length->∃ A c,(ps.getD i placeE.d).lines=J A (lss.getD i []).length c/\OwnE lineE (J A (lss.getD i []).length c) (lss.getD i []) w
 acs:∀ i:Nat,i < ps.length->∃ B m d,(ps.getD i placeE.d).acts=J B m d
 hom:OwnE bunE (J Ah hs.length ch) hs w
 flt:OwnE letE (J Af fl.length cf) fl w
 far:¬ G bs/\¬ G bb/\(∀ x∈foot (J Ap ps.length cp),¬ G x)/\(∀ i:Nat,i < ps.length->∀ x∈foot (ps.getD i placeE.d).lines,¬ G x)/\(∀ x∈foot (J Ah hs.length ch),¬ G x)/\∀ x∈foot (J Af fl.length cf),¬ G x
theorem ShotR.ks {st ti:Int} {Ap Ah Af:Option Addr} {cp ch cf:Nat} {ps:List PlaceR} {lss:List (List S.Line)} {hs:List Bun} {fl:List Let} {bs bb:Nat} {k:Int} {G:Set_} {w w':cA} (h:ShotR st ti Ap Ah Af cp ch cf ps lss hs fl bs bb k G w) (hk:KS G w w'):ShotR st ti Ap Ah Af cp ch cf ps lss hs fl bs bb k G w':=by
 obtain⟨f1,f2,f3,f4,f5,f6⟩:=h.far
 refine⟨hk.at_ h.box f1,hk.at_ h.boxk f2,h.pls.ks hk f3,h.len,fun i hi=>?_,h.acs,h.hom.ks hk f5,h.flt.ks hk f6,h.far⟩
 obtain⟨A,c,e,ho⟩:=h.lns i hi
 exact⟨A,c,e,ho.ks hk (fun x hx=>f4 i hi x (by rw[e];exact hx))⟩
def toksB (k:Int) (lss:List (List S.Line)) (hs:List Bun) (fl:List Let):List Bun:=lss.flatMap (lnsB k) ++ (homB k hs ++ letsB k fl)
set_option maxHeartbeats 1000000 in
theorem tokens_in (F:Fence) (n:Nat) (h72:F.fn 72) (hro:F.round=U) (st ti k:Int) (vp vh vf:Value) (w:cA) :
  CallsIn F n dA 72 #[.agg #[V I st,V I ti,vp,vh,vf],V I k] w fun e w'=>e=.returned (.func (.func 102) #[] #[bA (M ⟨w.heap.size,0,U⟩),bA (M ⟨w.heap.size+1,0,U⟩)])/\w'=(w.alloc (O #[V I st,V I ti,vp,vh,vf] 41)).alloc (O #[V I k] 3):=by
 refine callsIn_of_wp Tryz.func72 rfl h72 ?_ hro
 simp only[Tryz.ntmps72,List.size_toArray,List.length_cons,List.length_nil,Nat.reduceAdd,Nat.reduceSub,Array.replicate_succ,Array.replicate_zero,List.push_toArray,List.append_toArray,List.nil_append,List.cons_append]
 gi_wp2
 go_ret
 exact⟨rfl,rfl⟩
theorem tok1_in (F:Fence) (n:Nat) (h102:F.fn 102) (hro:F.round=U) (hn:1≤n) (l bs bb:Nat) (st ti k:Int) (Ap Ah Af:Option Addr) (cp ch cf:Nat) (ps:List PlaceR) (lss:List (List S.Line)) (hs:List Bun) (fl:List Let) (G:Set_) (J_ Jx:List Bun->cA->Prop)
  (hJ:∀ pre W o,J_ pre W->J_ pre (W.alloc o))
  (hY:∀ pre x W,J_ pre W->pre.length < (toksB k lss hs fl).length->YieldAt F (n - 1) dA l #[bunV x] W fun e W' =>
   (e=.returned (aA true)/\J_ (pre ++ [x]) W'/\KS G W W')∨(e=.returned (aA false)/\Jx (pre ++ [x]) W'))
  (W:cA) (hS:ShotR st ti Ap Ah Af cp ch cf ps lss hs fl bs bb k G W) (hk0:0≤k) (hk1:k < hs.length) (h0:J_ [] W) :
  CallsIn F n dA 102 #[.func (.yield l) #[] #[],bA (M ⟨bs,0,U⟩),bA (M ⟨bb,0,U⟩)] W fun e W'=>(∃ v,e=.returned v) /\
   ((∃ ys,ys=toksB k lss hs fl/\J_ ys W')∨(∃ pre,pre <+: toksB k lss hs fl/\Jx pre W')):=by
 have c2:=cw hS.box 2 (v:=J Ap ps.length cp)
 have R0:=AS (show ∃ pre,toksB k lss hs fl=pre ++ ((lss.drop 0).flatMap (lnsB k) ++ (homB k hs ++ letsB k fl))/\J_ pre W/\KS G W W from⟨[],rfl,h0,qB _ _⟩)
 have HS:=AS hS
 have HJ:=AS hJ
 have HY:=AS hY
 clear hS h0 hJ hY
 refine callsIn_of_wp Tryz.func102 rfl h102 ?_ hro
 simp only[Tryz.ntmps102,List.size_toArray,List.length_cons,List.length_nil,Nat.reduceAdd,Nat.reduceSub,Array.replicate_succ,Array.replicate_zero,List.push_toArray,List.append_toArray,List.nil_append,List.cons_append]
 gi_wp2
 gi_loopw [5,7,13] (fun v5 v7 v13 wr=>∃ i:Nat,v13=V I i/\i≤ps.length/\Aside0 (∃ pre,toksB k lss hs fl=pre ++ ((lss.drop i).flatMap (lnsB k) ++ (homB k hs ++ letsB k fl))/\J_ pre wr/\KS G W wr)) (fun _ _ v13 _=>ps.length+1 - (intOf v13).toNat)
 case atStart=>exact⟨0,rfl,vB,R0⟩
 case round =>
  obtain⟨i,rfl,hi,RI⟩:=hrel
  obtain⟨pre,r1,r2,r3⟩:=RI.out
  by_cases hcc:i < ps.length
  ·have q0:(0:Int)≤(i:Int):=vB
   have q1:(i:Int) < (ps.length:Int):=vB
   have SR:=AS (HS.out.ks r3)
   obtain⟨gp,c9,e,hb1,hb2,hgp,hcell⟩:=own_some SR.out.pls hcc
   injection e with e1 e2 e3
   subst e1 e3
   obtain⟨AL,cL,hAL,hOL⟩:=HS.out.lns i hcc
   have OL:=AS hOL
   have m0:wr.cell? ⟨gp,i * 6,U⟩=M ((ps.getD i placeE.d).lines):=(hcell 0 yB).trans rfl
   have m1:wr.cell? ⟨gp,i * 6+1,U⟩=M (aA (ps.getD i placeE.d).busy):=(hcell 1 yB).trans rfl
   have m2:wr.cell? ⟨gp,i * 6+2,U⟩=M (V I (ps.getD i placeE.d).op.block):=(hcell 2 yB).trans rfl
   have m3:wr.cell? ⟨gp,i * 6+3,U⟩=M (aA (ps.getD i placeE.d).op.write):=(hcell 3 yB).trans rfl
   have m4:wr.cell? ⟨gp,i * 6+4,U⟩=M (V I (ps.getD i placeE.d).op.value):=(hcell 4 yB).trans rfl
   have m5:wr.cell? ⟨gp,i * 6+5,U⟩=M ((ps.getD i placeE.d).acts):=(hcell 5 yB).trans rfl
   rw[hAL] at m0
   obtain⟨Ac,mc,dc,hAC⟩:=SR.out.acs i hcc
   rw[hAC] at m5
   obtain⟨ls,hls⟩:∃ ls,lss.getD i []=ls:=⟨_,rfl⟩
   have hfar:=HS.out.far.2.2.2.1 i hcc
   rw[hAL] at hfar
   have hdr:(lss.drop i).flatMap (lnsB k)=lnsB k ls ++ (lss.drop (i+1)).flatMap (lnsB k):=by
    have hil:i < lss.length:=by rw[HS.out.len];exact hcc
    rw[List.drop_eq_getElem_cons hil,List.flatMap_cons,<- hls,cB,dB hil,Option.getD_some]
   rw[hdr] at r1
   rw[hls] at m0 OL hfar
   obtain⟨plv,hplv⟩:∃ p,ps.getD i placeE.d=p:=⟨_,rfl⟩
   rw[hplv] at m1 m2 m3 m4
   obtain⟨pl,pbu,⟨pob,pow,pov⟩,pac,pz1,pz2⟩:=plv
   simp only at m1 m2 m3 m4
   have HFAR:=AS hfar
   have R1:=AS (show ∃ pre,toksB k lss hs fl=pre ++ (lnsB k (ls.drop 0) ++ ((lss.drop (i+1)).flatMap (lnsB k) ++ (homB k hs ++ letsB k fl)))/\J_ pre (wr.alloc (O #[J AL ls.length cL,aA pbu,V I pob,aA pow,V I pov,J Ac mc dc] 53))/\KS G W (wr.alloc (O #[J AL ls.length cL,aA pbu,V I pob,aA pow,V I pov,J Ac mc dc] 53)) from⟨pre,by rw[r1,List.append_assoc];rfl,HJ.out _ _ _ r2,r3.alloc _⟩)
   clear hAL hAC hOL hcell hls hfar hdr r1 r2 r3 hplv
   gi_wp2
   gi_loopw [7,20] (fun v7 v20 wr=>∃ j:Nat,v20=V I j/\j≤ls.length/\Aside0 (∃ pre,toksB k lss hs fl=pre ++ (lnsB k (ls.drop j) ++ ((lss.drop (i+1)).flatMap (lnsB k) ++ (homB k hs ++ letsB k fl)))/\J_ pre wr/\KS G W wr)) (fun _ v20 _=>ls.length+1 - (intOf v20).toNat)
   case atStart=>exact⟨0,rfl,vB,R1⟩
   case round =>
    obtain⟨j,rfl,hj,RJ⟩:=hrel
    obtain⟨pre2,s1,s2,s3⟩:=RJ.out
    by_cases hjj:j < ls.length
    ·have q2:(0:Int)≤(j:Int):=vB
     have q3:(j:Int) < (ls.length:Int):=vB
     have LR:=AS (OL.out.ks s3 HFAR.out)
     obtain⟨gl,cl,e,hb3,hb4,hgl,hcell⟩:=own_some LR.out hjj
     injection e with e1 e2 e3
     subst e1 e3
     have n0:wr.cell? ⟨gl,j * 5,U⟩=M (V I (ls.getD j lineE.d).block):=(hcell 0 yB).trans rfl
     have n1:wr.cell? ⟨gl,j * 5+1,U⟩=M (V I (ls.getD j lineE.d).bun.count):=(hcell 1 yB).trans rfl
     have n2:wr.cell? ⟨gl,j * 5+2,U⟩=M (aA (ls.getD j lineE.d).bun.owner):=(hcell 2 yB).trans rfl
     have n3:wr.cell? ⟨gl,j * 5+3,U⟩=M (aA (ls.getD j lineE.d).bun.has):=(hcell 3 yB).trans rfl
     have n4:wr.cell? ⟨gl,j * 5+4,U⟩=M (V I (ls.getD j lineE.d).bun.data):=(hcell 4 yB).trans rfl
     have hst:=lnsB_step k ls hjj
     obtain⟨x,hx⟩:∃ x,ls.getD j lineE.d=x:=⟨_,rfl⟩
     rw[hx] at n0 n1 n2 n3 n4 hst
     obtain⟨lb,⟨lc,lo,lh,ld⟩⟩:=x
     simp only at n0 n1 n2 n3 n4 hst
     have kb:=cw (s3.at_ HS.out.boxk HS.out.far.2.1) 0 (v:=V I k)
     clear hx hcell
     by_cases hb:lb=k
     ·rw[if_pos hb] at hst
      rw[hst,List.cons_append] at s1
      obtain⟨fn,tmps,assign,body,hy,hR⟩:=HY.out pre2 ⟨lc,lo,lh,ld⟩ (wr.alloc (O #[V I lb,V I lc,aA lo,aA lh,V I ld] 61)) (HJ.out _ _ _ s2) (by rw[s1];simp)
      simp only[bunV] at hy
      have db:(lb == k)=true:=by simp[hb]
      have S1:=AS s1
      have S3:=AS (s3.alloc (O #[V I lb,V I lc,aA lo,aA lh,V I ld] 61))
      have HB:=AS hb
      clear s1 s2 s3 hst hb
      gi_wp2
      refine hR.mono ?_
      rintro e w3 (⟨rfl,hJ3,hk3⟩ | ⟨rfl,hJx3⟩)
      ·have R3:=AS (show ∃ pre,toksB k lss hs fl=pre ++ (lnsB k (ls.drop (j+1)) ++ ((lss.drop (i+1)).flatMap (lnsB k) ++ (homB k hs ++ letsB k fl)))/\J_ pre w3/\KS G W w3 from⟨_,by rw[S1.out];simp,hJ3,S3.out.trans hk3 (fun _ _ h=>h)⟩)
       clear hJ3 hk3 hR hy
       gi_wp2
       go_roundw
       case rel=>exact⟨j+1,by go_num,vB,R3⟩
       case measure=>simp[intOf];omega
      ·gi_wp2
       refine yA (results_none rfl _ _ _) rfl ?_
       exact⟨⟨_,rfl⟩,.inr ⟨_,⟨_,by rw[S1.out,List.append_assoc];rfl⟩,hJx3⟩⟩
     ·rw[if_neg hb] at hst
      rw[hst] at s1
      have db:(lb == k)=false:=by simp[hb]
      have R3:=AS (show ∃ pre,toksB k lss hs fl=pre ++ (lnsB k (ls.drop (j+1)) ++ ((lss.drop (i+1)).flatMap (lnsB k) ++ (homB k hs ++ letsB k fl)))/\J_ pre (wr.alloc (O #[V I lb,V I lc,aA lo,aA lh,V I ld] 61))/\KS G W (wr.alloc (O #[V I lb,V I lc,aA lo,aA lh,V I ld] 61)) from⟨_,s1,HJ.out _ _ _ s2,s3.alloc _⟩)
      clear s1 s2 s3 hst
      gi_wp2
      refine⟨fun _ h=>(by cases h),?_⟩
      gi_wp2
      go_roundw
      case rel=>exact⟨j+1,by go_num,vB,R3⟩
      case measure=>simp[intOf];omega
    ·have hjn:j=ls.length:=vB
     subst hjn
     rw[List.drop_length] at s1
     have R2:=AS (show ∃ pre,toksB k lss hs fl=pre ++ ((lss.drop (i+1)).flatMap (lnsB k) ++ (homB k hs ++ letsB k fl))/\J_ pre wr/\KS G W wr from⟨pre2,s1,s2,s3⟩)
     clear s1 s2 s3
     gi_wp2
     go_roundw
     case rel=>exact⟨i+1,by go_num,vB,R2⟩
     case measure=>simp[intOf];omega
  ·have hin:i=ps.length:=vB
   subst hin
   have hdn:lss.drop ps.length=[]:=by rw[<- HS.out.len,List.drop_length]
   rw[hdn] at r1
   obtain⟨kn,hkn⟩:∃ kn:Nat,k=kn:=⟨k.toNat,vB⟩
   have hkl:kn < hs.length:=vB
   have hhb:homB k hs=[hs.getD kn b0]:=by unfold homB;rw[if_pos ⟨hk0,hk1⟩,hkn];rfl
   rw[hhb] at r1
   have OH:=AS (HS.out.hom.ks r3 HS.out.far.2.2.2.2.1)
   obtain⟨gh,ch',e,-,-,hgl,hcell⟩:=own_some OH.out hkl
   injection e with e1 e2 e3
   subst e1 e3
   have n0:wr.cell? ⟨gh,kn * 4,U⟩=M (V I (hs.getD kn b0).count):=(hcell 0 yB).trans rfl
   have n1:wr.cell? ⟨gh,kn * 4+1,U⟩=M (aA (hs.getD kn b0).owner):=(hcell 1 yB).trans rfl
   have n2:wr.cell? ⟨gh,kn * 4+2,U⟩=M (aA (hs.getD kn b0).has):=(hcell 2 yB).trans rfl
   have n3:wr.cell? ⟨gh,kn * 4+3,U⟩=M (V I (hs.getD kn b0).data):=(hcell 3 yB).trans rfl
   obtain⟨x,hx⟩:∃ x,hs.getD kn b0=x:=⟨_,rfl⟩
   rw[hx] at n0 n1 n2 n3 r1
   obtain⟨lc,lo,lh,ld⟩:=x
   simp only at n0 n1 n2 n3
   have kb:wr.cell? ⟨bb,0,U⟩=M (V I kn):=by rw[<- hkn];exact(cw (r3.at_ HS.out.boxk HS.out.far.2.1) 0)
   have cb3:=cw (r3.at_ HS.out.box HS.out.far.1) 3 (v:=J (M ⟨gh,0,U⟩) hs.length ch)
   obtain⟨fn,tmps,assign,body,hy,hR⟩:=HY.out pre ⟨lc,lo,lh,ld⟩ wr r2 (by rw[r1];simp)
   simp only[bunV] at hy
   have S1:=AS r1
   have S3:=AS r3
   have HKN:=AS hkn
   have qk0:(0:Int)≤(kn:Int):=vB
   have qk1:(kn:Int) < (hs.length:Int):=vB
   clear r1 r2 r3 hcell hx hhb hdn hkn
   gi_wp2
   refine hR.mono ?_
   rintro e w3 (⟨rfl,hJ3,hk3⟩ | ⟨rfl,hJx3⟩)
   ·have R3:=AS (show ∃ pre,toksB k lss hs fl=pre ++ letsB k (fl.drop 0)/\J_ pre w3/\KS G W w3 from⟨_,by rw[S1.out];simp,hJ3,S3.out.trans hk3 (fun _ _ h=>h)⟩)
    have cb4:=cw (hk3.at_ (S3.out.at_ HS.out.box HS.out.far.1) HS.out.far.1) 4 (v:=J Af fl.length cf)
    clear hJ3 hk3 hR hy
    gi_wp2
    gi_loopw [9,59] (fun v9 v59 wr=>∃ j:Nat,v59=V I j/\j≤fl.length/\Aside0 (∃ pre,toksB k lss hs fl=pre ++ letsB k (fl.drop j)/\J_ pre wr/\KS G W wr)) (fun _ v59 _=>fl.length+1 - (intOf v59).toNat)
    case atStart=>exact⟨0,rfl,vB,R3⟩
    case round =>
     obtain⟨j,rfl,hj,RJ⟩:=hrel
     obtain⟨pre2,s1,s2,s3⟩:=RJ.out
     by_cases hjj:j < fl.length
     ·have q2:(0:Int)≤(j:Int):=vB
      have q3:(j:Int) < (fl.length:Int):=vB
      have LR:=AS (HS.out.flt.ks s3 HS.out.far.2.2.2.2.2)
      obtain⟨gl,cl2,e,hb3,hb4,hgl2,hcell⟩:=own_some LR.out hjj
      injection e with e1 e2 e3
      subst e1 e3
      have z0:wr.cell? ⟨gl,j * 11,U⟩=M (V I (fl.getD j let0).kind):=(hcell 0 yB).trans rfl
      have z1:wr.cell? ⟨gl,j * 11+1,U⟩=M (V I (fl.getD j let0).src):=(hcell 1 yB).trans rfl
      have z2:wr.cell? ⟨gl,j * 11+2,U⟩=M (V I (fl.getD j let0).dst):=(hcell 2 yB).trans rfl
      have z3:wr.cell? ⟨gl,j * 11+3,U⟩=M (V I (fl.getD j let0).block):=(hcell 3 yB).trans rfl
      have z4:wr.cell? ⟨gl,j * 11+4,U⟩=M (V I (fl.getD j let0).seq):=(hcell 4 yB).trans rfl
      have z5:wr.cell? ⟨gl,j * 11+5,U⟩=M (V I (fl.getD j let0).who):=(hcell 5 yB).trans rfl
      have z6:wr.cell? ⟨gl,j * 11+6,U⟩=M (aA (fl.getD j let0).write):=(hcell 6 yB).trans rfl
      have z7:wr.cell? ⟨gl,j * 11+7,U⟩=M (V I (fl.getD j let0).bun.count):=(hcell 7 yB).trans rfl
      have z8:wr.cell? ⟨gl,j * 11+8,U⟩=M (aA (fl.getD j let0).bun.owner):=(hcell 8 yB).trans rfl
      have z9:wr.cell? ⟨gl,j * 11+9,U⟩=M (aA (fl.getD j let0).bun.has):=(hcell 9 yB).trans rfl
      have z10:wr.cell? ⟨gl,j * 11+10,U⟩=M (V I (fl.getD j let0).bun.data):=(hcell 10 yB).trans rfl
      have hst:=letsB_step k fl hjj
      obtain⟨x,hx⟩:∃ x,fl.getD j let0=x:=⟨_,rfl⟩
      rw[show letE.d=let0 from rfl,hx] at hst
      rw[hx] at z0 z1 z2 z3 z4 z5 z6 z7 z8 z9 z10
      obtain⟨xk,xf,xt,xb,xq,xw,xr,⟨xc,xo,xh,xd⟩⟩:=x
      simp only at hst z0 z1 z2 z3 z4 z5 z6 z7 z8 z9 z10
      have kb2:wr.cell? ⟨bb,0,U⟩=M (V I kn):=by rw[<- HKN.out];exact(cw (s3.at_ HS.out.boxk HS.out.far.2.1) 0)
      clear hx hcell
      by_cases hxk:xk=1
      ·have dk:(xk == 1)=true:=by simp[hxk]
       by_cases hxb:xb=kn
       ·have db:(xb == (kn:Int))=true:=by simp[hxb]
        rw[if_pos ⟨hxk,by rw[HKN.out];exact hxb⟩] at hst
        rw[hst] at s1
        obtain⟨fn,tmps,assign,body,hy,hR⟩:=HY.out pre2 ⟨xc,xo,xh,xd⟩ (wr.alloc (O #[V I xk,V I xf,V I xt,V I xb,V I xq,V I xw,aA xr,V I xc,aA xo,aA xh,V I xd] 47)) (HJ.out _ _ _ s2) (by rw[s1];simp)
        simp only[bunV] at hy
        have S1:=AS s1
        have S3:=AS (s3.alloc (O #[V I xk,V I xf,V I xt,V I xb,V I xq,V I xw,aA xr,V I xc,aA xo,aA xh,V I xd] 47))
        have HB:=AS (qA hxk hxb)
        clear s1 s2 s3 hst hxk hxb
        gi_wp2
        refine hR.mono ?_
        rintro e w4 (⟨rfl,hJ3,hk3⟩ | ⟨rfl,hJx3⟩)
        ·have R3:=AS (show ∃ pre,toksB k lss hs fl=pre ++ letsB k (fl.drop (j+1))/\J_ pre w4/\KS G W w4 from⟨_,by rw[S1.out];simp,hJ3,S3.out.trans hk3 (fun _ _ h=>h)⟩)
         clear hJ3 hk3 hR hy
         gi_wp2
         go_roundw
         case rel=>exact⟨j+1,by go_num,vB,R3⟩
         case measure=>simp[intOf];omega
        ·gi_wp2
         refine yA (results_none rfl _ _ _) rfl ?_
         exact⟨⟨_,rfl⟩,.inr ⟨_,⟨_,by rw[S1.out,List.append_assoc];rfl⟩,hJx3⟩⟩
       ·have db:(xb == (kn:Int))=false:=by simp[hxb]
        rw[if_neg (fun h=>hxb (by rw[<- HKN.out];exact h.2))] at hst
        rw[hst] at s1
        have R3:=AS (show ∃ pre,toksB k lss hs fl=pre ++ letsB k (fl.drop (j+1))/\J_ pre (wr.alloc (O #[V I xk,V I xf,V I xt,V I xb,V I xq,V I xw,aA xr,V I xc,aA xo,aA xh,V I xd] 47))/\KS G W (wr.alloc (O #[V I xk,V I xf,V I xt,V I xb,V I xq,V I xw,aA xr,V I xc,aA xo,aA xh,V I xd] 47)) from⟨_,s1,HJ.out _ _ _ s2,s3.alloc _⟩)
        have HB:=AS (qA hxk hxb)
        clear s1 s2 s3 hst hxk hxb
        gi_wp2
        refine⟨fun _ h=>(by cases h),?_⟩
        gi_wp2
        go_roundw
        case rel=>exact⟨j+1,by go_num,vB,R3⟩
        case measure=>simp[intOf];omega
      ·have dk:(xk == 1)=false:=by simp[hxk]
       rw[if_neg (fun h=>hxk h.1)] at hst
       rw[hst] at s1
       have R3:=AS (show ∃ pre,toksB k lss hs fl=pre ++ letsB k (fl.drop (j+1))/\J_ pre (wr.alloc (O #[V I xk,V I xf,V I xt,V I xb,V I xq,V I xw,aA xr,V I xc,aA xo,aA xh,V I xd] 47))/\KS G W (wr.alloc (O #[V I xk,V I xf,V I xt,V I xb,V I xq,V I xw,aA xr,V I xc,aA xo,aA xh,V I xd] 47)) from⟨_,s1,HJ.out _ _ _ s2,s3.alloc _⟩)
       clear s1 s2 s3 hst
       gi_wp2
       refine⟨fun _ h=>(by cases h),?_⟩
       gi_wp2
       go_roundw
       case rel=>exact⟨j+1,by go_num,vB,R3⟩
       case measure=>simp[intOf];omega
     ·have hjn:j=fl.length:=vB
      subst hjn
      rw[List.drop_length] at s1
      have E1:=AS (show toksB k lss hs fl=pre2 from s1.trans (by simp[letsB]))
      clear s1
      gi_wp2
      go_end0
      exact⟨⟨_,rfl⟩,.inl ⟨pre2,E1.out.symm,s2⟩⟩
   ·gi_wp2
    refine yA (results_none rfl _ _ _) rfl ?_
    exact⟨⟨_,rfl⟩,.inr ⟨_,⟨_,by rw[S1.out,List.append_assoc];rfl⟩,hJx3⟩⟩
def blkF (a:Int×Int×Bool) (b:Bun):Int×Int×Bool:=(wrap64 (a.1+b.count),if b.owner then wrap64 (a.2.1+1) else a.2.1,if b.owner then (a.2.2 && b.has) else a.2.2)
def blkN (bs:List Bun):Int×Int×Bool:=bs.foldl blkF (0,0,true)
theorem blkN_snoc (pre:List Bun) (b:Bun):blkN (pre ++ [b])=blkF (blkN pre) b:=by simp[blkN]
structure ShotP (Ap Ah Af:Option Addr) (cp ch cf:Nat) (ps:List PlaceR) (lss:List (List S.Line)) (hs:List Bun) (fl:List Let) (w:cA):Prop where
 pls:OwnE placeE (J Ap ps.length cp) ps w
 len:lss.length=ps.length
 lns:∀ i:Nat,i < ps.length->∃ A c,(ps.getD i placeE.d).lines=J A (lss.getD i []).length c/\OwnE lineE (J A (lss.getD i []).length c) (lss.getD i []) w
 acs:∀ i:Nat,i < ps.length->∃ B m d,(ps.getD i placeE.d).acts=J B m d
 hom:OwnE bunE (J Ah hs.length ch) hs w
 flt:OwnE letE (J Af fl.length cf) fl w
theorem ShotP.toR {st ti:Int} {Ap Ah Af:Option Addr} {cp ch cf:Nat} {ps:List PlaceR} {lss:List (List S.Line)} {hs:List Bun} {fl:List Let} {bs bb:Nat} {k:Int} {G:Set_} {w w':cA} (h:ShotP Ap Ah Af cp ch cf ps lss hs fl w) (hb:Below w.heap.size w w') (h1:w'.heap[bs]?=M (O #[V I st,V I ti,J Ap ps.length cp,J Ah hs.length ch,J Af fl.length cf] 41 (0,0))) (h2:w'.heap[bb]?=M (O #[V I k] 3 (0,0))) (hG:∀ x,x < w.heap.size∨x=bs∨x=bb->¬ G x):ShotR st ti Ap Ah Af cp ch cf ps lss hs fl bs bb k G w':=by
 have hk:=pB (fun _=>False) hb
 refine⟨h1,h2,h.pls.ks hk (fun _ _=>id),h.len,fun i hi=>?_,h.acs,h.hom.ks hk (fun _ _=>id),h.flt.ks hk (fun _ _=>id),hG _ (.inr (.inl rfl)),hG _ (.inr (.inr rfl)),fun x hx=>hG x (.inl (h.pls.lt x hx)),fun i hi x hx=>?_,fun x hx=>hG x (.inl (h.hom.lt x hx)),fun x hx=>hG x (.inl (h.flt.lt x hx))⟩
 ·obtain⟨A,c,e,ho⟩:=h.lns i hi
  exact⟨A,c,e,ho.ks hk (fun _ _=>id)⟩
 ·obtain⟨A,c,e,ho⟩:=h.lns i hi
  rw[e] at hx
  exact hG x (.inl (ho.lt x hx))
theorem ShotP.below {Ap Ah Af:Option Addr} {cp ch cf:Nat} {ps:List PlaceR} {lss:List (List S.Line)} {hs:List Bun} {fl:List Let} {w w':cA} (h:ShotP Ap Ah Af cp ch cf ps lss hs fl w) (hb:Below w.heap.size w w'):ShotP Ap Ah Af cp ch cf ps lss hs fl w':=by
 have hk:=pB (fun _=>False) hb
 refine⟨h.pls.ks hk (fun _ _=>id),h.len,fun i hi=>?_,h.acs,h.hom.ks hk (fun _ _=>id),h.flt.ks hk (fun _ _=>id)⟩
 obtain⟨A,c,e,ho⟩:=h.lns i hi
 exact⟨A,c,e,ho.ks hk (fun _ _=>id)⟩
theorem ownFrom_ks {β:Type} {G:Set_} {w0:cA} {B:Nat} (hG:∀ x,B≤x->G x):OwnFrom B (fun(_:β) W=>KS G w0 W):=fun _ X Y row hs hg hr =>
 ⟨hg.os.trans hs.1,hg.tape.trans hs.2.1,hg.output.trans hs.2.2.1,lB hs.size hg.size,fun i hi hF=>(hg.block i (Nat.lt_of_lt_of_le hi hs.size) (fun e=>hF (hG i (hr i e.symm).1))).trans (hs.2.2.2.2 i hi hF)⟩
theorem block_in (F:Fence) (n:Nat) (h43:F.fn 43) (h72:F.fn 72) (h102:F.fn 102) (hro:F.round=U) (hn:5≤n) (c:Cfg) (st ti k:Int) (Ap Ah Af:Option Addr) (cp ch cf:Nat) (ps:List PlaceR) (lss:List (List S.Line)) (hs:List Bun) (fl:List Let) (w:cA) (hP:ShotP Ap Ah Af cp ch cf ps lss hs fl w) (hk0:0≤k) (hk1:k < hs.length) (ho:blkN (toksB k lss hs fl)=(c.tokens,1,true)) :
  CallsIn F n dA 43 #[.agg #[V I c.nodes,V I c.blocks,V I c.tokens,V I c.sets,V I c.ways,V I c.cap,V I c.wait,V I c.tries,V I c.policy],.agg #[V I st,V I ti,J Ap ps.length cp,J Ah hs.length ch,J Af fl.length cf],V I k] w fun e w'=>e=.returned (V I 0)/\Below w.heap.size w w':=by
 have h1:1≤n:=vB
 have HP:=AS hP
 have HO:=AS ho
 clear hP ho
 refine callsIn_of_wp_marks Tryz.func43 rfl h43 ?_ hro
 simp only[Tryz.ntmps43,List.size_toArray,List.length_cons,List.length_nil,Nat.reduceAdd,Nat.reduceSub,Array.replicate_succ,Array.replicate_zero,List.push_toArray,List.append_toArray,List.nil_append,List.cons_append]
 gi_wp2_with (gi_at_call 72;refine(tokens_in F (n - 1) h72 hro _ _ _ _ _ _ _).mono ?_;rintro e w' ⟨rfl,rfl⟩)
 have X0:=AS (lA (lA (lA (lA (lA (lA (show(w.alloc (O #[V I c.nodes,V I c.blocks,V I c.tokens,V I c.sets,V I c.ways,V I c.cap,V I c.wait,V I c.tries,V I c.policy] 23)).heap[w.heap.size]?=M (O #[V I c.nodes,V I c.blocks,V I c.tokens,V I c.sets,V I c.ways,V I c.cap,V I c.wait,V I c.tries,V I c.policy] 23) from blk_newE _ _ (by simp only[rA])) (O #[V I st,V I ti,J Ap ps.length cp,J Ah hs.length ch,J Af fl.length cf] 41)) (O #[V I 0] 3)) (O #[V I 0] 3)) (O #[aA true] 4)) (O #[V I st,V I ti,J Ap ps.length cp,J Ah hs.length ch,J Af fl.length cf] 41)) (O #[V I k] 3))
 have X2:=AS (lA (lA (lA (lA (show(((w.alloc (O #[V I c.nodes,V I c.blocks,V I c.tokens,V I c.sets,V I c.ways,V I c.cap,V I c.wait,V I c.tries,V I c.policy] 23)).alloc (O #[V I st,V I ti,J Ap ps.length cp,J Ah hs.length ch,J Af fl.length cf] 41)).alloc (O #[V I 0] 3)).heap[w.heap.size+1+1]?=M (O #[V I 0] 3) from blk_newE _ _ (by simp only[rA])) (O #[V I 0] 3)) (O #[aA true] 4)) (O #[V I st,V I ti,J Ap ps.length cp,J Ah hs.length ch,J Af fl.length cf] 41)) (O #[V I k] 3))
 have X3:=AS (lA (lA (lA (show((((w.alloc (O #[V I c.nodes,V I c.blocks,V I c.tokens,V I c.sets,V I c.ways,V I c.cap,V I c.wait,V I c.tries,V I c.policy] 23)).alloc (O #[V I st,V I ti,J Ap ps.length cp,J Ah hs.length ch,J Af fl.length cf] 41)).alloc (O #[V I 0] 3)).alloc (O #[V I 0] 3)).heap[w.heap.size+1+1+1]?=M (O #[V I 0] 3) from blk_newE _ _ (by simp only[rA])) (O #[aA true] 4)) (O #[V I st,V I ti,J Ap ps.length cp,J Ah hs.length ch,J Af fl.length cf] 41)) (O #[V I k] 3))
 have X4:=AS (lA (lA (show(((((w.alloc (O #[V I c.nodes,V I c.blocks,V I c.tokens,V I c.sets,V I c.ways,V I c.cap,V I c.wait,V I c.tries,V I c.policy] 23)).alloc (O #[V I st,V I ti,J Ap ps.length cp,J Ah hs.length ch,J Af fl.length cf] 41)).alloc (O #[V I 0] 3)).alloc (O #[V I 0] 3)).alloc (O #[aA true] 4)).heap[w.heap.size+1+1+1+1]?=M (O #[aA true] 4) from blk_newE _ _ (by simp only[rA])) (O #[V I st,V I ti,J Ap ps.length cp,J Ah hs.length ch,J Af fl.length cf] 41)) (O #[V I k] 3))
 have X5:=AS (lA (show((((((w.alloc (O #[V I c.nodes,V I c.blocks,V I c.tokens,V I c.sets,V I c.ways,V I c.cap,V I c.wait,V I c.tries,V I c.policy] 23)).alloc (O #[V I st,V I ti,J Ap ps.length cp,J Ah hs.length ch,J Af fl.length cf] 41)).alloc (O #[V I 0] 3)).alloc (O #[V I 0] 3)).alloc (O #[aA true] 4)).alloc (O #[V I st,V I ti,J Ap ps.length cp,J Ah hs.length ch,J Af fl.length cf] 41)).heap[w.heap.size+1+1+1+1+1]?=M (O #[V I st,V I ti,J Ap ps.length cp,J Ah hs.length ch,J Af fl.length cf] 41) from blk_newE _ _ (by simp only[rA])) (O #[V I k] 3))
 have X6:=AS (show(((((((w.alloc (O #[V I c.nodes,V I c.blocks,V I c.tokens,V I c.sets,V I c.ways,V I c.cap,V I c.wait,V I c.tries,V I c.policy] 23)).alloc (O #[V I st,V I ti,J Ap ps.length cp,J Ah hs.length ch,J Af fl.length cf] 41)).alloc (O #[V I 0] 3)).alloc (O #[V I 0] 3)).alloc (O #[aA true] 4)).alloc (O #[V I st,V I ti,J Ap ps.length cp,J Ah hs.length ch,J Af fl.length cf] 41)).alloc (O #[V I k] 3)).heap[w.heap.size+1+1+1+1+1+1]?=M (O #[V I k] 3) from blk_newE _ _ (by simp only[rA]))
 have BB:=AS (show Below w.heap.size w (((((((w.alloc (O #[V I c.nodes,V I c.blocks,V I c.tokens,V I c.sets,V I c.ways,V I c.cap,V I c.wait,V I c.tries,V I c.policy] 23)).alloc (O #[V I st,V I ti,J Ap ps.length cp,J Ah hs.length ch,J Af fl.length cf] 41)).alloc (O #[V I 0] 3)).alloc (O #[V I 0] 3)).alloc (O #[aA true] 4)).alloc (O #[V I st,V I ti,J Ap ps.length cp,J Ah hs.length ch,J Af fl.length cf] 41)).alloc (O #[V I k] 3)) from by repeat (with_reducible first | exact fA _ _ | apply eA))
 have SZ:=AS (show(((((((w.alloc (O #[V I c.nodes,V I c.blocks,V I c.tokens,V I c.sets,V I c.ways,V I c.cap,V I c.wait,V I c.tries,V I c.policy] 23)).alloc (O #[V I st,V I ti,J Ap ps.length cp,J Ah hs.length ch,J Af fl.length cf] 41)).alloc (O #[V I 0] 3)).alloc (O #[V I 0] 3)).alloc (O #[aA true] 4)).alloc (O #[V I st,V I ti,J Ap ps.length cp,J Ah hs.length ch,J Af fl.length cf] 41)).alloc (O #[V I k] 3)).heap.size=w.heap.size+7 from by simp only[rA])
 generalize ((((((w.alloc (O #[V I c.nodes,V I c.blocks,V I c.tokens,V I c.sets,V I c.ways,V I c.cap,V I c.wait,V I c.tries,V I c.policy] 23)).alloc (O #[V I st,V I ti,J Ap ps.length cp,J Ah hs.length ch,J Af fl.length cf] 41)).alloc (O #[V I 0] 3)).alloc (O #[V I 0] 3)).alloc (O #[aA true] 4)).alloc (O #[V I st,V I ti,J Ap ps.length cp,J Ah hs.length ch,J Af fl.length cf] 41)).alloc (O #[V I k] 3)=W0 at X0 X2 X3 X4 X5 X6 BB SZ ⊢
 have hsz:=SZ.out
 refine wpIn_rangeFunc_ownH hro h1 (gf:=102) (lb:=#[bA (M ⟨w.heap.size+1+1+1+1+1,0,U⟩),bA (M ⟨w.heap.size+1+1+1+1+1+1,0,U⟩)]) rfl h102 (enters_of Tryz.func102 xB rfl)
  (encs:=fun x:Bun=>#[bunV x]) (Kp:=KS (fun x=>x=w.heap.size+1+1∨x=w.heap.size+1+1+1∨x=w.heap.size+1+1+1+1∨w.heap.size+7≤x)) (S:=fun ys=>ys=toksB k lss hs fl) (Sp:=fun pre=>pre <+: toksB k lss hs fl) (N:=(toksB k lss hs fl).length) (w0:=W0)
  (fun l J_ Jx W hW hJ _ hY h0=>tok1_in F (n - 1) h102 hro vB l (w.heap.size+1+1+1+1+1) (w.heap.size+1+1+1+1+1+1) st ti k Ap Ah Af cp ch cf ps lss hs fl (fun x=>x=w.heap.size+1+1∨x=w.heap.size+1+1+1∨x=w.heap.size+1+1+1+1∨w.heap.size+7≤x) J_ Jx (fun pre W1 o h=>hJ pre W1 _ U h (World.grownBy_alloc W1 o U) (fun r e=>by cases e)) hY W ((HP.out.toR (G:=(fun x=>x=w.heap.size+1+1∨x=w.heap.size+1+1+1∨x=w.heap.size+1+1+1+1∨w.heap.size+7≤x)) BB.out X5.out X6.out (fun x hx=>by omega)).ks (pB _ hW)) hk0 hk1 h0)
  (fun h k=>h.trans k (fun _ _ h=>h))
  (fun W l o o' hl _ _ _=>(fun hg=>⟨hg.os,hg.tape,hg.output,hg.size,fun i hi hF=>hg.block i hi (fun e=>hF (by cases e;right;right;right;omega))⟩) (grownBy_putObj' W l o'))
  (fA _ _) (fun _=>rfl)
  (fun pre W=>(Boxed W (w.heap.size+1+1) 3 (V I (blkN pre).1)/\Boxed W (w.heap.size+1+1+1) 3 (V I (blkN pre).2.1)/\Boxed W (w.heap.size+1+1+1+1) 4 (aA (blkN pre).2.2))/\KS (fun x=>x=w.heap.size+1+1∨x=w.heap.size+1+1+1∨x=w.heap.size+1+1+1+1∨w.heap.size+7≤x) W0 W)
  (fun _ _ _=>False)
  (OwnFrom.and (OwnFrom.and (Own.from (boxed_own _ _ _) _) (OwnFrom.and (Own.from (boxed_own _ _ _) _) (Own.from (boxed_own _ _ _) _))) (ownFrom_ks (fun x hx=>by omega)))
  (fun _ _ _ _ _ hs _ _=>hs)
  ⟨⟨X2.out,X3.out,X4.out⟩,qB _ _⟩
  (fun x a' W=>∃ Bx,w.heap.size+7≤Bx/\W.heap[Bx]?=M (O #[V I x.count,aA x.owner,aA x.has,V I x.data] 45 (0,0))/\a'={ tmps:=#[.agg #[V I c.nodes,V I c.blocks,V I c.tokens,V I c.sets,V I c.ways,V I c.cap,V I c.wait,V I c.tries,V I c.policy],.agg #[V I st,V I ti,J Ap ps.length cp,J Ah hs.length ch,J Af fl.length cf],V I k,bA (M ⟨w.heap.size,0,U⟩),bA (M ⟨w.heap.size+1,0,U⟩),undef,V I 0,bA (M ⟨w.heap.size+1+1,0,U⟩),bA (M ⟨w.heap.size+1+1+1,0,U⟩),bA (M ⟨w.heap.size+1+1+1+1,0,U⟩),bA (M ⟨Bx,0,U⟩),.agg #[V I st,V I ti,J Ap ps.length cp,J Ah hs.length ch,J Af fl.length cf],V I k,.func (.func 102) #[] #[bA (M ⟨w.heap.size+1+1+1+1+1,0,U⟩),bA (M ⟨w.heap.size+1+1+1+1+1+1,0,U⟩)],bunV x,undef,undef,undef,undef,undef,undef,undef,undef,undef,undef,undef,undef,undef,undef,undef,undef,undef,undef,undef,undef,undef,undef,undef,undef],defers:=[]})
  (fun x a' _ X Y row hs hg hr=>by
   obtain⟨Bx,h1,h2,h3⟩:=hs
   refine⟨Bx,h1,(hg.block Bx (eB h2) (fun e=>?_)).trans h2,h3⟩
   obtain⟨o,ho,hc⟩:=(hr Bx e.symm).2
   rw[h2] at ho
   cases ho
   cases hc)
  ?assign ?body ?done ?stop
 case assign =>
  rintro l pre x W K ⟨⟨b1,b2,b3⟩,hk⟩ hK
  have hsw:=hk.size
  obtain⟨xc,xo,xh,xd⟩:=x
  simp only[bunV]
  gi_wp2
  exact hK _ _ ((KeepsOthers.alloc _ _).from _) (KS.alloc (qB _ _) _) ⟨⟨b1.alloc _,b2.alloc _,b3.alloc _⟩,hk.alloc _⟩ ⟨W.heap.size,vB,nA _ _,rfl⟩
 case body =>
  rintro l pre x a' W hl ⟨r,hr⟩ ⟨⟨b1,b2,b3⟩,hk⟩ ⟨Bx,hBx,bX,rfl⟩ hlt
  have hsw:=hk.size
  have e:=blkN_snoc pre x
  have HE:=AS e
  clear e
  generalize blkN pre=Apre at b1 b2 b3 HE
  obtain⟨v1,v2,v3⟩:=Apre
  simp only at b1 b2 b3
  obtain⟨xc,xo,xh,xd⟩:=x
  simp only at bX
  have c1:=b1.cell
  have c2:=b2.cell
  have c3:=b3.cell
  have f1:=b1.frozen
  have f2:=b2.frozen
  have f3:=b3.frozen
  have x0:=cw bX 0 (v:=V I xc)
  have x1:=cw bX 1 (v:=aA xo)
  have x2:=cw bX 2 (v:=aA xh)
  have n2:¬ Bx=w.heap.size+1+1:=vB
  have n3:¬ Bx=w.heap.size+1+1+1:=vB
  have n4:¬ Bx=w.heap.size+1+1+1+1:=vB
  cases xo with
  | false =>
   gi_wp2
   refine⟨(KeepsOthers.setCell _ _ _).from _,KS.set (qB _ _) (.inl (.inl rfl)) _ _,⟨⟨?_,?_,?_⟩,KS.set hk (.inl (.inl rfl)) _ _⟩⟩
   ·rw[HE.out];exact b1.set _
   ·rw[HE.out];exact b2.other vB _
   ·rw[HE.out];exact b3.other vB _
  | true =>
   cases v3 with
   | false =>
    gi_wp2
    refine⟨((KeepsOthers.setCell _ _ _).trans ((KeepsOthers.setCell _ _ _).trans (KeepsOthers.setCell _ _ _))).from _,KS.set (KS.set (KS.set (qB _ _) (.inl (.inl rfl)) _ _) (.inl (.inr (.inl rfl))) _ _) (.inl (.inr (.inr (.inl rfl)))) _ _,⟨⟨?_,?_,?_⟩,KS.set (KS.set (KS.set hk (.inl (.inl rfl)) _ _) (.inl (.inr (.inl rfl))) _ _) (.inl (.inr (.inr (.inl rfl)))) _ _⟩⟩
    ·rw[HE.out];exact((b1.set _).other vB _).other vB _
    ·rw[HE.out];exact((b2.other vB _).set _).other vB _
    ·rw[HE.out];exact((b3.other vB _).other vB _).set _
   | true =>
    gi_wp2
    refine⟨((KeepsOthers.setCell _ _ _).trans ((KeepsOthers.setCell _ _ _).trans (KeepsOthers.setCell _ _ _))).from _,KS.set (KS.set (KS.set (qB _ _) (.inl (.inl rfl)) _ _) (.inl (.inr (.inl rfl))) _ _) (.inl (.inr (.inr (.inl rfl)))) _ _,⟨⟨?_,?_,?_⟩,KS.set (KS.set (KS.set hk (.inl (.inl rfl)) _ _) (.inl (.inr (.inl rfl))) _ _) (.inl (.inr (.inr (.inl rfl)))) _ _⟩⟩
    ·rw[HE.out];exact((b1.set _).other vB _).other vB _
    ·rw[HE.out];exact((b2.other vB _).set _).other vB _
    ·rw[HE.out];exact((b3.other vB _).other vB _).set _
 case done =>
  rintro D ys W hD rfl ⟨⟨b1,b2,b3⟩,hk⟩ hK
  have c1:=b1.cell
  have c2:=b2.cell
  have c3:=b3.cell
  rw[HO.out] at c1 c2 c3
  try simp only at c1 c2 c3
  have k2:=cw (hk.at_ X0.out (fun h=>by omega)) 2 (v:=V I c.tokens)
  gi_wp2
  refine⟨zB,.inl ⟨_,_,rfl,run_takeDeferred hK,?_⟩⟩
  exact⟨_,results_tmp rfl _ _ _,rfl,(BB.out.trans (hk.toBelow (fun x hx=>by omega) vB)).trans (belowK_b (w:=w) (pA _) W D _ _ vB hK rfl rfl)⟩
 case stop =>
  rintro D c pre W _ _ h _
  exact h.elim
theorem auditCheck_any (c:Cfg) (hb0:0≤c.blocks) (hb1:c.blocks≤64) (st ti:Int) (Ap Ah Af:Option Addr) (cp ch cf:Nat) (ps:List PlaceR) (lss:List (List S.Line)) (hs:List Bun) (fl:List Let) (w:cA) (hP:ShotP Ap Ah Af cp ch cf ps lss hs fl w) (hh:c.blocks≤hs.length) (ho:∀ k:Nat,(k:Int) < c.blocks->blkN (toksB k lss hs fl)=(c.tokens,1,true)) :
  bB dA 18 #[.agg #[V I c.nodes,V I c.blocks,V I c.tokens,V I c.sets,V I c.ways,V I c.cap,V I c.wait,V I c.tries,V I c.policy],.agg #[V I st,V I ti,J Ap ps.length cp,J Ah hs.length ch,J Af fl.length cf]] w fun e w'=>e=.returned (.tuple #[V I 0,V I 0])/\Below w.heap.size w w':=by
 obtain⟨nb,hnb⟩:∃ nb:Nat,c.blocks=nb:=⟨c.blocks.toNat,vB⟩
 have HNB:=AS hnb
 have HMIN:=AS (show max (min c.blocks 64) 0=(nb:Int) by omega)
 clear hnb
 have BK:=AS (fun(k:Nat) (hk:(k:Int) < c.blocks) (X:cA) (hb:Below w.heap.size w X)=>callsIn_wide.1 (block_in Fence.wide 5 trivial trivial trivial rfl vB c st ti k Ap Ah Af cp ch cf ps lss hs fl X (hP.below hb) vB vB (ho k hk)))
 have X0:=AS (lA (nA w (O #[V I c.nodes,V I c.blocks,V I c.tokens,V I c.sets,V I c.ways,V I c.cap,V I c.wait,V I c.tries,V I c.policy] 23)) (O #[V I st,V I ti,J Ap ps.length cp,J Ah hs.length ch,J Af fl.length cf] 41))
 have X1:=AS (show((w.alloc (O #[V I c.nodes,V I c.blocks,V I c.tokens,V I c.sets,V I c.ways,V I c.cap,V I c.wait,V I c.tries,V I c.policy] 23)).alloc (O #[V I st,V I ti,J Ap ps.length cp,J Ah hs.length ch,J Af fl.length cf] 41)).heap[w.heap.size+1]?=M (O #[V I st,V I ti,J Ap ps.length cp,J Ah hs.length ch,J Af fl.length cf] 41) from blk_newE _ _ (by simp only[rA]))
 have BB:=AS (show Below w.heap.size w (((w.alloc (O #[V I c.nodes,V I c.blocks,V I c.tokens,V I c.sets,V I c.ways,V I c.cap,V I c.wait,V I c.tries,V I c.policy] 23)).alloc (O #[V I st,V I ti,J Ap ps.length cp,J Ah hs.length ch,J Af fl.length cf] 41))) from by repeat (with_reducible first | exact fA _ _ | apply eA))
 clear hP ho
 have R0:=AS (fA ((w.alloc (O #[V I c.nodes,V I c.blocks,V I c.tokens,V I c.sets,V I c.ways,V I c.cap,V I c.wait,V I c.tries,V I c.policy] 23)).alloc (O #[V I st,V I ti,J Ap ps.length cp,J Ah hs.length ch,J Af fl.length cf] 41)).heap.size ((w.alloc (O #[V I c.nodes,V I c.blocks,V I c.tokens,V I c.sets,V I c.ways,V I c.cap,V I c.wait,V I c.tries,V I c.policy] 23)).alloc (O #[V I st,V I ti,J Ap ps.length cp,J Ah hs.length ch,J Af fl.length cf] 41)))
 have c1:=cw X0.out 1 (v:=V I c.blocks)
 go_enter Tryz.func18,Tryz.ntmps18
 go_upto_region 1 with fail
 generalize ((w.alloc (O #[V I c.nodes,V I c.blocks,V I c.tokens,V I c.sets,V I c.ways,V I c.cap,V I c.wait,V I c.tries,V I c.policy] 23)).alloc (O #[V I st,V I ti,J Ap ps.length cp,J Ah hs.length ch,J Af fl.length cf] 41))=W1 at X0 X1 BB R0 c1 ⊢
 have hmin:=HMIN.out
 go_wp2
 go_loopw [6,7,12] (fun v6 v7 v12 wr=>∃ i:Nat,v12=V I i/\i≤nb/\Aside0 (Below W1.heap.size W1 wr)) (fun _ _ v12 _=>nb+1 - (intOf v12).toNat)
 case atStart=>exact⟨0,rfl,vB,R0⟩
 case round =>
  obtain⟨i,rfl,hi,RI⟩:=hrel
  have r1:=RI.out
  have hnb64:nb≤64:=vB
  by_cases hcc:i < nb
  ·have q0:(0:Int)≤(i:Int):=vB
   have q1:(i:Int) < (nb:Int):=vB
   have e0:=cw (kA X0.out r1) 0 (v:=V I c.nodes)
   have e1:=cw (kA X0.out r1) 1 (v:=V I c.blocks)
   have e2:=cw (kA X0.out r1) 2 (v:=V I c.tokens)
   have e3:=cw (kA X0.out r1) 3 (v:=V I c.sets)
   have e4:=cw (kA X0.out r1) 4 (v:=V I c.ways)
   have e5:=cw (kA X0.out r1) 5 (v:=V I c.cap)
   have e6:=cw (kA X0.out r1) 6 (v:=V I c.wait)
   have e7:=cw (kA X0.out r1) 7 (v:=V I c.tries)
   have e8:=cw (kA X0.out r1) 8 (v:=V I c.policy)
   have s0:=cw (kA X1.out r1) 0 (v:=V I st)
   have s1:=cw (kA X1.out r1) 1 (v:=V I ti)
   have s2:=cw (kA X1.out r1) 2 (v:=J Ap ps.length cp)
   have s3:=cw (kA X1.out r1) 3 (v:=J Ah hs.length ch)
   have s4:=cw (kA X1.out r1) 4 (v:=J Af fl.length cf)
   have CK:=AS (BK.out i (by rw[HNB.out];exact q1) wr (BB.out.trans (r1.mono BB.out.size)))
   have R1:=AS r1
   clear r1
   go_wp2_with fail
   refine CK.out.mono ?_
   rintro e w2 ⟨rfl,hb2⟩
   have R2:=AS (R1.out.trans (hb2.mono R1.out.size))
   clear hb2 e0 e1 e2 e3 e4 e5 e6 e7 e8 s0 s1 s2 s3 s4
   go_wp2_with fail
   go_roundw
   case rel=>exact⟨i+1,by go_num,vB,R2⟩
   case measure=>simp[intOf];omega
  ·have hin:i=nb:=vB
   subst hin
   have R1:=AS r1
   clear r1
   go_wp2
   go_ret2
   exact⟨rfl,BB.out.trans (R1.out.mono BB.out.size)⟩
end Go.Proofs.YtiebppkhaiofeaaGreat.K
namespace Go.Proofs.YtiebppkhaiofeaaGreat.K
open Go.RowKit Go.Proofs.YtiebppkhaiofeaaGreatW.PrintWords Go.Proofs.YtiebppkhaiofeaaGreat.S
attribute [local go_sem] World.cell?_alloc_some
open Go.ChangeMaps Go.MapKept
def ops0:List Ent:=[⟨1,0,0,1,7⟩,⟨1,1,0,0,0⟩]
def l0:List Ent:=[⟨1,0,0,1,7⟩,⟨2,0,0,0,0⟩,⟨2,0,0,0,0⟩,⟨2,0,0,0,0⟩,⟨1,1,0,0,0⟩,⟨2,0,0,0,0⟩,⟨2,0,0,0,0⟩,⟨2,0,0,0,0⟩]
def ds0:List S.Done:=[⟨0,1,⟨0,true,7⟩,7,4⟩,⟨1,1,⟨0,false,0⟩,7,8⟩]
theorem script0:scriptN c0 ⟨0,0,0⟩ ops0 (S.World.new c0) []=(l0,true):=by kernel_rfl
theorem run0:(runL c0 l0).2.2=ds0:=by kernel_rfl
theorem nodes0:(runL c0 l0).1.nodes.length=2:=by kernel_rfl
theorem mem0:(runL c0 l0).1.home.mem=[⟨0,false,false,0⟩]:=by kernel_rfl
theorem way0:(runL c0 l0).1.way=[]:=by kernel_rfl
theorem rows00:((runL c0 l0).1.nodes.getD 0 (S.Node.new 0)).lines.rows 0=[0]/\((runL c0 l0).1.nodes.getD 0 (S.Node.new 0)).lines.tok 0=⟨1,true,true,7⟩:=⟨xB,xB⟩
theorem rows01:((runL c0 l0).1.nodes.getD 1 (S.Node.new 1)).lines.rows 0=[0]/\((runL c0 l0).1.nodes.getD 1 (S.Node.new 1)).lines.tok 0=⟨1,false,true,7⟩:=⟨xB,xB⟩
theorem cnt00:(cntL c0 l0).2=[0,8,0,0,0,1,1,0,2,4,0,0,0,0,0,0,2,4,0,0,0,0,0]:=by kernel_rfl
theorem chk0:checkN ds0 Regs.new 0=(0,true):=by kernel_rfl
theorem ok0:∀ i,i < l0.length->EntOk c0 (runL c0 (l0.take i)).1 (l0.getD i ent0):=by
 have h:((List.range l0.length).all fun i=>decide (EntOk c0 (runL c0 (l0.take i)).1 (l0.getD i ent0)))=true:=by kernel_rfl
 intro i hi
 have:=List.all_eq_true.1 h i (List.mem_range.2 hi)
 simpa using this
theorem imod_one (x:Int):imod x 1=0:=by unfold imod;simp[Int.tmod_one]
theorem rows_one {n:S.Node} {m:Int} (h:NOk c0 n m) {a:Int} (hr:n.lines.rows 0=[a]) {ks:List Int} (hn:ks.Nodup) (hk:∀ k,n.lines.rows k≠[]->k∈ks):ks.flatMap n.lines.rows=[a]:=by
 have hz:∀ k,k≠0->n.lines.rows k=[]:=fun k hk0=>by
  cases e:n.lines.rows k with
  | nil=>rfl
  | cons x xs =>
   have h1:=(h.cac.own k x (by rw[e];simp)).2
   rw[show c0.sets=1 from rfl,imod_one] at h1
   exact absurd h1.symm hk0
 have h0:(0:Int)∈ks:=hk 0 (by rw[hr];simp)
 clear hk
 induction ks with
 | nil=>simp at h0
 | cons k ks ih =>
  rw[List.flatMap_cons]
  rw[List.nodup_cons] at hn
  by_cases e:k=0
  ·subst e
   have:ks.flatMap n.lines.rows=[]:=by
    rw[List.flatMap_eq_nil_iff]
    intro y hy
    exact hz y (fun e=>hn.1 (e ▸ hy))
   rw[hr,this];rfl
  ·rw[hz k e]
   exact ih hn.2 (by
    rcases List.mem_cons.1 h0 with h | h
    ·exact absurd h.symm e
    ·exact h)
def lss0:List (List S.Line):=[[⟨0,⟨1,true,true,7⟩⟩],[⟨0,⟨1,false,true,7⟩⟩]]
theorem aud00:blkN (toksB ((0:Nat):Int) lss0 [⟨0,false,false,0⟩] [])=(c0.tokens,1,true):=by kernel_rfl
theorem aud0 (k:Nat) (hk:(k:Int) < c0.blocks):blkN (toksB k lss0 [⟨0,false,false,0⟩] [])=(c0.tokens,1,true):=by
 have e:k=0:=by
  have h:(k:Int) < 1:=hk
  omega
 rw[e]
 exact aud00
theorem lines0 {n:S.Node} {m:Int} (h:NOk c0 n m) {b:Bun} (hr:n.lines.rows 0=[0]/\n.lines.tok 0=b) {v:Value} {B:Nat} {w:cA} (hL:LinesV n v B w):∃ A c,v=J A 1 c/\OwnE lineE (J A 1 c) [⟨0,b⟩] w:=by
 obtain⟨⟨ks,h1,h2,h3⟩,-⟩:=hL
 rw[rows_one h hr.1 h1 h2] at h3
 have h4:OwnE lineE v [⟨0,b⟩] w:=by
  have e:([(0:Int)].mergeSort fun x y=>decide (x≤y))=[0]:=by simp
  rw[e] at h3
  simpa [hr.2] using h3
 obtain⟨A,c,e,-⟩:=h4.row
 exact⟨A,c,e,e ▸ h4⟩
theorem shot0 {Ap Ah Af:Option Addr} {np cp nh ch nf cf:Nat} {ps:List PlaceR} {B:Nat} {w:cA} (hS:ShotV (runL c0 l0).1 Ap Ah Af np cp nh ch nf cf ps B w):np=ps.length/\nh=1/\nf=0/\ShotP Ap Ah Af cp ch cf ps lss0 [⟨0,false,false,0⟩] [] w:=by
 obtain⟨h1,h2,h3,h4,h5,h6,h7,h8⟩:=hS
 have hw:=(runL_ok (c:=c0) yB l0 yB l0.length (pA _)).1
 rw[List.take_length] at hw
 rw[nodes0] at h3
 rw[mem0] at h5 h7
 rw[way0] at h6 h8
 have h7:nh=1:=h7
 have h8:nf=0:=h8
 subst h2 h7 h8
 have hk:∀ i,i < 2->NOk c0 ((runL c0 l0).1.nodes.getD i (S.Node.new i)) (65536 * (runL c0 l0).1.steps):=fun i hi=>hw.node _ (getD_mem _ (by rw[nodes0];exact hi))
 refine⟨rfl,rfl,rfl,h1,h3.symm,fun i hi=>?_,fun i hi=>?_,h5,h6⟩
 ·have:=(h4.ok i hi).2.2.1
  rw[h3] at hi
  match i,hi with
  | 0,_=>exact lines0 (hk 0 vB) rows00 this
  | 1,_=>exact lines0 (hk 1 vB) rows01 this
 ·obtain⟨⟨L,-,-,h⟩,-⟩:=(h4.ok i hi).2.2.2
  obtain⟨A,c,e,-⟩:=h.row
  exact⟨A,_,c,e⟩
theorem runLive {A:Option Addr} {lc:Nat} {w:cA} (hR:OwnE entE (J A 8 lc) l0 w):bB dA 14 #[.agg #[V I 2,V I 1,V I 2,V I 1,V I 1,V I 100,V I 1,V I 0,V I 1],J A 8 lc] w fun e w'=>∃ Ar nr cr gd cd Ap Ah Af cp2 ch cf ps st ti,e=.returned (.tuple #[.agg #[J Ar nr cr,J (M ⟨gd,0,U⟩) 2 cd,V I st,V I ti,J Ap ps.length cp2,J Ah 1 ch,J Af 0 cf],V I 0])/\OwnE doneE (J (M ⟨gd,0,U⟩) 2 cd) ds0 w'/\ShotP Ap Ah Af cp2 ch cf ps lss0 [⟨0,false,false,0⟩] [] w'/\Below w.heap.size w w':=by
 refine(run_any c0 yB l0 yB hR).mono ?_
 rintro e w' ⟨Ar,cr,Ad,cd,Ap,Ah,Af,np,cp,nh,ch,nf,cf,ps,rfl,-,h2,h3,h4⟩
 obtain⟨rfl,rfl,rfl,hP⟩:=shot0 h3
 rw[run0] at h2 ⊢
 obtain⟨gd,cd2,e,-⟩:=own_some (i:=0) h2 yB
 injection e with e1 e2 e3
 subst e1 e3
 exact⟨Ar,_,cr,gd,cd,Ap,Ah,Af,cp,ch,cf,ps,_,_,rfl,h2,hP,h4⟩
theorem auditLive {st ti:Int} {Ap Ah Af:Option Addr} {cp ch cf:Nat} {ps:List PlaceR} {w:cA} (hP:ShotP Ap Ah Af cp ch cf ps lss0 [⟨0,false,false,0⟩] [] w):bB dA 18 #[.agg #[V I 2,V I 1,V I 2,V I 1,V I 1,V I 100,V I 1,V I 0,V I 1],.agg #[V I st,V I ti,J Ap ps.length cp,J Ah 1 ch,J Af 0 cf]] w fun e w'=>e=.returned (.tuple #[V I 0,V I 0])/\Below w.heap.size w w' :=
 auditCheck_any c0 yB yB st ti Ap Ah Af cp ch cf ps lss0 [⟨0,false,false,0⟩] [] w hP yB aud0
theorem dval {gd cd:Nat} {w:cA} (h:OwnE doneE (J (M ⟨gd,0,U⟩) 2 cd) ds0 w):w.cell? ⟨gd,12,U⟩=M (V I 7):=by
 obtain⟨gd2,c2,e,-,-,-,hcell⟩:=own_some (i:=1) h yB
 have e1:gd=gd2:=by injection e with e1 _ _;injection e1 with e1;injection e1
 rw[e1]
 exact(hcell 5 yB).trans rfl
theorem live_any (w:cA):bB dA 6 #[] w (RV (aA true) w):=by
 have X0:=AS (lA (nA w (O #[V I 2,V I 1,V I 2,V I 1,V I 1,V I 100,V I 1,V I 0,V I 1] 23)) (O #[V I 1,V I 0,V I 0,V I 1,V I 7,V I 1,V I 1,V I 0,V I 0,V I 0] 33))
 have OE:=AS (show OwnE entE (J (M ⟨w.heap.size+1,0,U⟩) 2 2) ops0 ((w.alloc (O #[V I 2,V I 1,V I 2,V I 1,V I 1,V I 100,V I 1,V I 0,V I 1] 23)).alloc (O #[V I 1,V I 0,V I 0,V I 1,V I 7,V I 1,V I 1,V I 0,V I 0,V I 0] 33)) from OwnE.mk (xs:=ops0) (blk_newE _ _ (by simp only[rA])) yB yB yB (by rfl))
 have BB:=AS (show Below w.heap.size w ((w.alloc (O #[V I 2,V I 1,V I 2,V I 1,V I 1,V I 100,V I 1,V I 0,V I 1] 23)).alloc (O #[V I 1,V I 0,V I 0,V I 1,V I 7,V I 1,V I 1,V I 0,V I 0,V I 0] 33)) from by repeat (with_reducible first | exact fA _ _ | apply eA))
 have SC:=AS (show bB dA 13 #[.agg #[V I 2,V I 1,V I 2,V I 1,V I 1,V I 100,V I 1,V I 0,V I 1],.agg #[V I 0,V I 0,V I 0],J (M ⟨w.heap.size+1,0,U⟩) 2 2] ((w.alloc (O #[V I 2,V I 1,V I 2,V I 1,V I 1,V I 100,V I 1,V I 0,V I 1] 23)).alloc (O #[V I 1,V I 0,V I 0,V I 1,V I 7,V I 1,V I 1,V I 0,V I 0,V I 0] 33)) (fun e w'=>∃ A cp,e=.returned (.tuple #[J A 8 cp,aA true])/\OwnE entE (J A 8 cp) l0 w'/\Below ((w.alloc (O #[V I 2,V I 1,V I 2,V I 1,V I 1,V I 100,V I 1,V I 0,V I 1] 23)).alloc (O #[V I 1,V I 0,V I 0,V I 1,V I 7,V I 1,V I 1,V I 0,V I 0,V I 0] 33)).heap.size ((w.alloc (O #[V I 2,V I 1,V I 2,V I 1,V I 1,V I 100,V I 1,V I 0,V I 1] 23)).alloc (O #[V I 1,V I 0,V I 0,V I 1,V I 7,V I 1,V I 1,V I 0,V I 0,V I 0] 33)) w') from by
  have h:=script_any (c:=c0) yB 0 0 0 ops0 OE.out yB
  rw[script0] at h
  exact h)
 have SZ:=AS (show((w.alloc (O #[V I 2,V I 1,V I 2,V I 1,V I 1,V I 100,V I 1,V I 0,V I 1] 23)).alloc (O #[V I 1,V I 0,V I 0,V I 1,V I 7,V I 1,V I 1,V I 0,V I 0,V I 0] 33)).heap.size=w.heap.size+2 from by simp only[rA])
 go_enter Tryz.func6,Tryz.ntmps6
 go_wp2_with fail
 generalize ((w.alloc (O #[V I 2,V I 1,V I 2,V I 1,V I 1,V I 100,V I 1,V I 0,V I 1] 23)).alloc (O #[V I 1,V I 0,V I 0,V I 1,V I 7,V I 1,V I 1,V I 0,V I 0,V I 0] 33))=W1 at X0 OE BB SC SZ ⊢
 refine SC.out.mono ?_
 rintro e w2 ⟨A,cp,rfl,hO,hb2⟩
 have X2:=AS (kA X0.out hb2)
 have B2:=AS (BB.out.trans (hb2.mono BB.out.size))
 have O2:=AS hO
 clear hO hb2 SC OE
 go_upto_region 3 with fail
 have e0:=cw X2.out 0 (v:=V I 2)
 have e1:=cw X2.out 1 (v:=V I 1)
 have e2:=cw X2.out 2 (v:=V I 2)
 have e3:=cw X2.out 3 (v:=V I 1)
 have e4:=cw X2.out 4 (v:=V I 1)
 have e5:=cw X2.out 5 (v:=V I 100)
 have e6:=cw X2.out 6 (v:=V I 1)
 have e7:=cw X2.out 7 (v:=V I 0)
 have e8:=cw X2.out 8 (v:=V I 1)
 go_wp2_with fail
 refine(runLive O2.out).mono ?_
 rintro e w3 ⟨Ar,nr,cr,gd,cd,Ap,Ah,Af,cp2,ch,cf,ps,st,ti,rfl,hD,hP,hb3⟩
 have Q4:=AS (nA w3 (O #[J Ar nr cr,J (M ⟨gd,0,U⟩) 2 cd,V I st,V I ti,J Ap ps.length cp2,J Ah 1 ch,J Af 0 cf] 69))
 have B4:=AS (eA hb3 (O #[J Ar nr cr,J (M ⟨gd,0,U⟩) 2 cd,V I st,V I ti,J Ap ps.length cp2,J Ah 1 ch,J Af 0 cf] 69))
 have D4:=AS (hD.ks (pB (fun _=>False) (eA (fA _ w3) (O #[J Ar nr cr,J (M ⟨gd,0,U⟩) 2 cd,V I st,V I ti,J Ap ps.length cp2,J Ah 1 ch,J Af 0 cf] 69))) (fun _ _=>id))
 have P4:=AS (hP.below (eA (fA _ w3) (O #[J Ar nr cr,J (M ⟨gd,0,U⟩) 2 cd,V I st,V I ti,J Ap ps.length cp2,J Ah 1 ch,J Af 0 cf] 69)))
 clear hD hP hb3 e0 e1 e2 e3 e4 e5 e6 e7 e8
 go_upto_region 4 with fail
 generalize w3.alloc (O #[J Ar nr cr,J (M ⟨gd,0,U⟩) 2 cd,V I st,V I ti,J Ap ps.length cp2,J Ah 1 ch,J Af 0 cf] 69)=w4 at Q4 B4 D4 P4 ⊢
 generalize w3.heap.size=q at Q4 ⊢
 have k1:=cw Q4.out 1 (v:=J (M ⟨gd,0,U⟩) 2 cd)
 go_wp2_with fail
 refine(check_any ds0 yB D4.out).mono ?_
 rintro e w5 ⟨rfl,hb5⟩
 rw[chk0]
 have Q5:=AS (kA Q4.out hb5)
 have B5:=AS (B4.out.trans (hb5.mono B4.out.size))
 have D5:=AS (D4.out.ks (pB (fun _=>False) hb5) (fun _ _=>id))
 have P5:=AS (P4.out.below hb5)
 have O5:=AS (O2.out.ks (pB (fun _=>False) B5.out) (fun _ _=>id))
 have X5:=AS (kA X2.out B5.out)
 clear hb5 k1
 go_upto_region 5 with fail
 have e0:=cw X5.out 0 (v:=V I 2)
 have e1:=cw X5.out 1 (v:=V I 1)
 have e2:=cw X5.out 2 (v:=V I 2)
 have e3:=cw X5.out 3 (v:=V I 1)
 have e4:=cw X5.out 4 (v:=V I 1)
 have e5:=cw X5.out 5 (v:=V I 100)
 have e6:=cw X5.out 6 (v:=V I 1)
 have e7:=cw X5.out 7 (v:=V I 0)
 have e8:=cw X5.out 8 (v:=V I 1)
 go_wp2_with fail
 refine(countRun_any c0 yB l0 yB ok0 O5.out).mono ?_
 rintro e w6 ⟨rfl,hb6⟩
 obtain⟨w7,hst,hC,hk⟩:=store79 (CntAt.new w6) (cs':=(cntL c0 l0).2) (by rw[cnt00];rfl)
 have HST:=AS hst
 have C7:=AS hC
 have B7:=AS (hb6.trans (((eA (fA w6.heap.size w6) _).trans (hk.toBelow (B:=w6.heap.size) (fun y hy=>by have hy':y=w6.heap.size:=hy;omega) (by rw[rA];omega))).mono hb6.size))
 clear hst hC hk hb6 e0 e1 e2 e3 e4 e5 e6 e7 e8
 go_upto_region 6 with (first | (refine wpList_store79 rfl _ _ rfl w6.heap.size rfl _ rfl w7 HST.out ?_) | fail)
 clear HST
 generalize w6.heap.size=y at C7 ⊢
 have Q7:=AS (kA Q5.out B7.out)
 have X7:=AS (kA X5.out B7.out)
 have P7:=AS (P5.out.below B7.out)
 have D7:=AS (D5.out.ks (pB (fun _=>False) B7.out) (fun _ _=>id))
 have e0:=cw X7.out 0 (v:=V I 2)
 have e1:=cw X7.out 1 (v:=V I 1)
 have e2:=cw X7.out 2 (v:=V I 2)
 have e3:=cw X7.out 3 (v:=V I 1)
 have e4:=cw X7.out 4 (v:=V I 1)
 have e5:=cw X7.out 5 (v:=V I 100)
 have e6:=cw X7.out 6 (v:=V I 1)
 have e7:=cw X7.out 7 (v:=V I 0)
 have e8:=cw X7.out 8 (v:=V I 1)
 have k0:=cw Q7.out 0 (v:=J Ar nr cr)
 have k1:=cw Q7.out 1 (v:=J (M ⟨gd,0,U⟩) 2 cd)
 have k2:=cw Q7.out 2 (v:=V I st)
 have k3:=cw Q7.out 3 (v:=V I ti)
 have k4:=cw Q7.out 4 (v:=J Ap ps.length cp2)
 have k5:=cw Q7.out 5 (v:=J Ah 1 ch)
 have k6:=cw Q7.out 6 (v:=J Af 0 cf)
 go_wp2_with fail
 refine(auditLive P7.out).mono ?_
 rintro e w8 ⟨rfl,hb8⟩
 have Q8:=AS (kA Q7.out hb8)
 have X8:=AS (kA X7.out hb8)
 have C8:=AS (C7.out.below hb8)
 have D8:=AS (D7.out.ks (pB (fun _=>False) hb8) (fun _ _=>id))
 have B8:=AS hb8
 clear hb8 e0 e1 e2 e3 e4 e5 e6 e7 e8 k0 k1 k2 k3 k4 k5 k6
 go_upto_region 7 with fail
 have e0:=cw X8.out 0 (v:=V I 2)
 have e1:=cw X8.out 1 (v:=V I 1)
 have e2:=cw X8.out 2 (v:=V I 2)
 have e3:=cw X8.out 3 (v:=V I 1)
 have e4:=cw X8.out 4 (v:=V I 1)
 have e5:=cw X8.out 5 (v:=V I 100)
 have e6:=cw X8.out 6 (v:=V I 1)
 have e7:=cw X8.out 7 (v:=V I 0)
 have e8:=cw X8.out 8 (v:=V I 1)
 have k1:=cw Q8.out 1 (v:=J (M ⟨gd,0,U⟩) 2 cd)
 have y5:w8.cell? ⟨y,5,U⟩=M (V I 1):=by rw[C8.out.cell yB,cnt00];rfl
 have y6:w8.cell? ⟨y,6,U⟩=M (V I 1):=by rw[C8.out.cell yB,cnt00];rfl
 have d12:w8.cell? ⟨gd,12,U⟩=M (V I 7):=dval D8.out
 go_wp2_with fail
 refine(bound_live w8).mono ?_
 rintro e w9 ⟨rfl,hb9⟩
 have B9:=AS hb9
 clear hb9
 go_wp2
 go_ret
 exact⟨rfl,B2.out.trans ((((B5.out.trans (B7.out.mono B5.out.size)).trans (B8.out.mono (lB B5.out.size B7.out.size))).trans (B9.out.mono (lB (lB B5.out.size B7.out.size) B8.out.size))).mono B2.out.size)⟩
end Go.Proofs.YtiebppkhaiofeaaGreat.K
