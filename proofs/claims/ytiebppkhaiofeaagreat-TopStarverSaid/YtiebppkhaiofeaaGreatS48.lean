/- Part of the proof of TopStarver: what functions of the program do. -/
import Derived.RangeFuncNested
import Derived.RangeFuncBound
import Derived.RangeFuncCalls
import Derived.RangeFuncLeaves
import Derived.Shelf.Abstract
import Derived.Shelf.RegionOpen
import Derived.OwnWalkIn
import Derived.TacticsInMore
import Derived.LoopNIn
import Derived.LoopIn
import Derived.Test.YtiebppkhaiofeaaGreatS04
set_option maxHeartbeats 4000000
set_option maxRecDepth 100000
set_option linter.unusedVariables false
set_option linter.unusedSimpArgs false
namespace Go.Proofs.YtiebppkhaiofeaaGreat.K
open Go.RowKit Go.Proofs.YtiebppkhaiofeaaGreatW.PrintWords Go.Proofs.YtiebppkhaiofeaaGreat.S
attribute [local go_sem] World.cell?_alloc_some
open Go.ChangeMaps Go.MapKept
open Go.Shelf
attribute [local go_sem] Oper.semAt_some
def lnsB (k:Int) (ls:List S.Line):List Bun:=(ls.filter fun l=>l.block == k).map (·.bun)
def letsB (k:Int) (fl:List Let):List Bun:=(fl.filter fun x=>x.kind == 1 && x.block == k).map (·.bun)
def homB (k:Int) (hs:List Bun):List Bun:=if 0≤k/\k < hs.length then [hs.getD k.toNat b0] else []
theorem lnsB_step (k:Int) (ls:List S.Line) {j:Nat} (h:j < ls.length):lnsB k (ls.drop j)=if (ls.getD j lineE.d).block=k then (ls.getD j lineE.d).bun :: lnsB k (ls.drop (j+1)) else lnsB k (ls.drop (j+1)):=by
 rw[List.drop_eq_getElem_cons h,List.getD_eq_getElem?_getD,List.getElem?_eq_getElem h,Option.getD_some]
 unfold lnsB
 rw[List.filter_cons]
 by_cases e:ls[j].block=k
 ·rw[if_pos (by simpa using e),if_pos e];rfl
 ·rw[if_neg (by simpa using e),if_neg e]
theorem letsB_step (k:Int) (fl:List Let) {j:Nat} (h:j < fl.length):letsB k (fl.drop j)=if (fl.getD j letE.d).kind=1/\(fl.getD j letE.d).block=k then (fl.getD j letE.d).bun :: letsB k (fl.drop (j+1)) else letsB k (fl.drop (j+1)):=by
 rw[List.drop_eq_getElem_cons h,List.getD_eq_getElem?_getD,List.getElem?_eq_getElem h,Option.getD_some]
 unfold letsB
 rw[List.filter_cons]
 by_cases e:fl[j].kind=1/\fl[j].block=k
 ·rw[if_pos (by simpa using e),if_pos e];rfl
 ·rw[if_neg (by simpa using e),if_neg e]
structure ShotR (st ti:Int) (Ap Ah Af:Option Addr) (cp ch cf:Nat) (ps:List PlaceR) (lss:List (List S.Line)) (hs:List Bun) (fl:List Let) (bs bb:Nat) (k:Int) (G:Set_) (w:Go.World):Prop where
 box:w.heap[bs]?=some (.cells #[.int .i64 st,.int .i64 ti,.slice Ap ps.length cp,.slice Ah hs.length ch,.slice Af fl.length cf] 41 (0,0))
 boxk:w.heap[bb]?=some (.cells #[.int .i64 k] 3 (0,0))
 pls:OwnE placeE (.slice Ap ps.length cp) ps w
 len:lss.length=ps.length
 lns:∀ i:Nat,i < ps.length->∃ A c,(ps.getD i placeE.d).lines=.slice A (lss.getD i []).length c/\OwnE lineE (.slice A (lss.getD i []).length c) (lss.getD i []) w
 acs:∀ i:Nat,i < ps.length->∃ B m d,(ps.getD i placeE.d).acts=.slice B m d
 hom:OwnE bunE (.slice Ah hs.length ch) hs w
 flt:OwnE letE (.slice Af fl.length cf) fl w
 far:¬ G bs/\¬ G bb/\(∀ x∈foot (.slice Ap ps.length cp),¬ G x)/\(∀ i:Nat,i < ps.length->∀ x∈foot (ps.getD i placeE.d).lines,¬ G x)/\(∀ x∈foot (.slice Ah hs.length ch),¬ G x)/\∀ x∈foot (.slice Af fl.length cf),¬ G x
theorem ShotR.ks {st ti:Int} {Ap Ah Af:Option Addr} {cp ch cf:Nat} {ps:List PlaceR} {lss:List (List S.Line)} {hs:List Bun} {fl:List Let} {bs bb:Nat} {k:Int} {G:Set_} {w w':Go.World} (h:ShotR st ti Ap Ah Af cp ch cf ps lss hs fl bs bb k G w) (hk:KS G w w'):ShotR st ti Ap Ah Af cp ch cf ps lss hs fl bs bb k G w':=by
 obtain⟨f1,f2,f3,f4,f5,f6⟩:=h.far
 refine⟨hk.at_ h.box f1,hk.at_ h.boxk f2,h.pls.ks hk f3,h.len,fun i hi=>?_,h.acs,h.hom.ks hk f5,h.flt.ks hk f6,h.far⟩
 obtain⟨A,c,e,ho⟩:=h.lns i hi
 exact⟨A,c,e,ho.ks hk (fun x hx=>f4 i hi x (by rw[e];exact hx))⟩
def toksB (k:Int) (lss:List (List S.Line)) (hs:List Bun) (fl:List Let):List Bun:=lss.flatMap (lnsB k) ++ (homB k hs ++ letsB k fl)
set_option maxHeartbeats 1000000 in
theorem tokens_in (F:Fence) (n:Nat) (h72:F.fn 72) (hro:F.round=none) (st ti k:Int) (vp vh vf:Value) (w:Go.World) :
  CallsIn F n Tryz.prog 72 #[.agg #[.int .i64 st,.int .i64 ti,vp,vh,vf],.int .i64 k] w fun e w'=>e=.returned (.func (.func 102) #[] #[.pointer (some ⟨w.heap.size,0,none⟩),.pointer (some ⟨w.heap.size+1,0,none⟩)])/\w'=(w.alloc (.cells #[.int .i64 st,.int .i64 ti,vp,vh,vf] 41)).alloc (.cells #[.int .i64 k] 3):=by
 refine callsIn_of_wp Tryz.func72 rfl h72 ?_ hro
 simp only[Tryz.ntmps72,List.size_toArray,List.length_cons,List.length_nil,Nat.reduceAdd,Nat.reduceSub,Array.replicate_succ,Array.replicate_zero,List.push_toArray,List.append_toArray,List.nil_append,List.cons_append]
 gi_wp2
 go_ret
 exact⟨rfl,rfl⟩
theorem tok1_in (F:Fence) (n:Nat) (h102:F.fn 102) (hro:F.round=none) (hn:1≤n) (l bs bb:Nat) (st ti k:Int) (Ap Ah Af:Option Addr) (cp ch cf:Nat) (ps:List PlaceR) (lss:List (List S.Line)) (hs:List Bun) (fl:List Let) (G:Set_) (J Jx:List Bun->Go.World->Prop)
  (hJ:∀ pre W o,J pre W->J pre (W.alloc o))
  (hY:∀ pre x W,J pre W->pre.length < (toksB k lss hs fl).length->YieldAt F (n - 1) Tryz.prog l #[bunV x] W fun e W' =>
   (e=.returned (.bool true)/\J (pre ++ [x]) W'/\KS G W W')∨(e=.returned (.bool false)/\Jx (pre ++ [x]) W'))
  (W:Go.World) (hS:ShotR st ti Ap Ah Af cp ch cf ps lss hs fl bs bb k G W) (hk0:0≤k) (hk1:k < hs.length) (h0:J [] W) :
  CallsIn F n Tryz.prog 102 #[.func (.yield l) #[] #[],.pointer (some ⟨bs,0,none⟩),.pointer (some ⟨bb,0,none⟩)] W fun e W'=>(∃ v,e=.returned v) /\
   ((∃ ys,ys=toksB k lss hs fl/\J ys W')∨(∃ pre,pre <+: toksB k lss hs fl/\Jx pre W')):=by
 have c2:=cw hS.box 2 (v:=.slice Ap ps.length cp)
 have R0:=AS (show ∃ pre,toksB k lss hs fl=pre ++ ((lss.drop 0).flatMap (lnsB k) ++ (homB k hs ++ letsB k fl))/\J pre W/\KS G W W from⟨[],rfl,h0,KS.refl _ _⟩)
 have HS:=AS hS
 have HJ:=AS hJ
 have HY:=AS hY
 clear hS h0 hJ hY
 refine callsIn_of_wp Tryz.func102 rfl h102 ?_ hro
 simp only[Tryz.ntmps102,List.size_toArray,List.length_cons,List.length_nil,Nat.reduceAdd,Nat.reduceSub,Array.replicate_succ,Array.replicate_zero,List.push_toArray,List.append_toArray,List.nil_append,List.cons_append]
 gi_wp2
 gi_loopw [5,7,13] (fun v5 v7 v13 wr=>∃ i:Nat,v13=.int .i64 i/\i≤ps.length/\Aside0 (∃ pre,toksB k lss hs fl=pre ++ ((lss.drop i).flatMap (lnsB k) ++ (homB k hs ++ letsB k fl))/\J pre wr/\KS G W wr)) (fun _ _ v13 _=>ps.length+1 - (intOf v13).toNat)
 case atStart=>exact⟨0,rfl,by omega,R0⟩
 case round =>
  obtain⟨i,rfl,hi,RI⟩:=hrel
  obtain⟨pre,r1,r2,r3⟩:=RI.out
  by_cases hcc:i < ps.length
  ·have q0:(0:Int)≤(i:Int):=by omega
   have q1:(i:Int) < (ps.length:Int):=by omega
   have SR:=AS (HS.out.ks r3)
   obtain⟨gp,c9,e,hb1,hb2,hgp,hcell⟩:=own_some SR.out.pls hcc
   injection e with e1 e2 e3
   subst e1 e3
   obtain⟨AL,cL,hAL,hOL⟩:=HS.out.lns i hcc
   have OL:=AS hOL
   have m0:wr.cell? ⟨gp,i * 6,none⟩=some ((ps.getD i placeE.d).lines):=(hcell 0 (by decide)).trans rfl
   have m1:wr.cell? ⟨gp,i * 6+1,none⟩=some (.bool (ps.getD i placeE.d).busy):=(hcell 1 (by decide)).trans rfl
   have m2:wr.cell? ⟨gp,i * 6+2,none⟩=some (.int .i64 (ps.getD i placeE.d).op.block):=(hcell 2 (by decide)).trans rfl
   have m3:wr.cell? ⟨gp,i * 6+3,none⟩=some (.bool (ps.getD i placeE.d).op.write):=(hcell 3 (by decide)).trans rfl
   have m4:wr.cell? ⟨gp,i * 6+4,none⟩=some (.int .i64 (ps.getD i placeE.d).op.value):=(hcell 4 (by decide)).trans rfl
   have m5:wr.cell? ⟨gp,i * 6+5,none⟩=some ((ps.getD i placeE.d).acts):=(hcell 5 (by decide)).trans rfl
   rw[hAL] at m0
   obtain⟨Ac,mc,dc,hAC⟩:=SR.out.acs i hcc
   rw[hAC] at m5
   obtain⟨ls,hls⟩:∃ ls,lss.getD i []=ls:=⟨_,rfl⟩
   have hfar:=HS.out.far.2.2.2.1 i hcc
   rw[hAL] at hfar
   have hdr:(lss.drop i).flatMap (lnsB k)=lnsB k ls ++ (lss.drop (i+1)).flatMap (lnsB k):=by
    have hil:i < lss.length:=by rw[HS.out.len];exact hcc
    rw[List.drop_eq_getElem_cons hil,List.flatMap_cons,<- hls,List.getD_eq_getElem?_getD,List.getElem?_eq_getElem hil,Option.getD_some]
   rw[hdr] at r1
   rw[hls] at m0 OL hfar
   obtain⟨plv,hplv⟩:∃ p,ps.getD i placeE.d=p:=⟨_,rfl⟩
   rw[hplv] at m1 m2 m3 m4
   obtain⟨pl,pbu,⟨pob,pow,pov⟩,pac,pz1,pz2⟩:=plv
   simp only at m1 m2 m3 m4
   have HFAR:=AS hfar
   have R1:=AS (show ∃ pre,toksB k lss hs fl=pre ++ (lnsB k (ls.drop 0) ++ ((lss.drop (i+1)).flatMap (lnsB k) ++ (homB k hs ++ letsB k fl)))/\J pre (wr.alloc (.cells #[.slice AL ls.length cL,.bool pbu,.int .i64 pob,.bool pow,.int .i64 pov,.slice Ac mc dc] 53))/\KS G W (wr.alloc (.cells #[.slice AL ls.length cL,.bool pbu,.int .i64 pob,.bool pow,.int .i64 pov,.slice Ac mc dc] 53)) from⟨pre,by rw[r1,List.append_assoc];rfl,HJ.out _ _ _ r2,r3.alloc _⟩)
   clear hAL hAC hOL hcell hls hfar hdr r1 r2 r3 hplv
   gi_wp2
   gi_loopw [7,20] (fun v7 v20 wr=>∃ j:Nat,v20=.int .i64 j/\j≤ls.length/\Aside0 (∃ pre,toksB k lss hs fl=pre ++ (lnsB k (ls.drop j) ++ ((lss.drop (i+1)).flatMap (lnsB k) ++ (homB k hs ++ letsB k fl)))/\J pre wr/\KS G W wr)) (fun _ v20 _=>ls.length+1 - (intOf v20).toNat)
   case atStart=>exact⟨0,rfl,by omega,R1⟩
   case round =>
    obtain⟨j,rfl,hj,RJ⟩:=hrel
    obtain⟨pre2,s1,s2,s3⟩:=RJ.out
    by_cases hjj:j < ls.length
    ·have q2:(0:Int)≤(j:Int):=by omega
     have q3:(j:Int) < (ls.length:Int):=by omega
     have LR:=AS (OL.out.ks s3 HFAR.out)
     obtain⟨gl,cl,e,hb3,hb4,hgl,hcell⟩:=own_some LR.out hjj
     injection e with e1 e2 e3
     subst e1 e3
     have n0:wr.cell? ⟨gl,j * 5,none⟩=some (.int .i64 (ls.getD j lineE.d).block):=(hcell 0 (by decide)).trans rfl
     have n1:wr.cell? ⟨gl,j * 5+1,none⟩=some (.int .i64 (ls.getD j lineE.d).bun.count):=(hcell 1 (by decide)).trans rfl
     have n2:wr.cell? ⟨gl,j * 5+2,none⟩=some (.bool (ls.getD j lineE.d).bun.owner):=(hcell 2 (by decide)).trans rfl
     have n3:wr.cell? ⟨gl,j * 5+3,none⟩=some (.bool (ls.getD j lineE.d).bun.has):=(hcell 3 (by decide)).trans rfl
     have n4:wr.cell? ⟨gl,j * 5+4,none⟩=some (.int .i64 (ls.getD j lineE.d).bun.data):=(hcell 4 (by decide)).trans rfl
     have hst:=lnsB_step k ls hjj
     obtain⟨x,hx⟩:∃ x,ls.getD j lineE.d=x:=⟨_,rfl⟩
     rw[hx] at n0 n1 n2 n3 n4 hst
     obtain⟨lb,⟨lc,lo,lh,ld⟩⟩:=x
     simp only at n0 n1 n2 n3 n4 hst
     have kb:=cw (s3.at_ HS.out.boxk HS.out.far.2.1) 0 (v:=.int .i64 k)
     clear hx hcell
     by_cases hb:lb=k
     ·rw[if_pos hb] at hst
      rw[hst,List.cons_append] at s1
      obtain⟨fn,tmps,assign,body,hy,hR⟩:=HY.out pre2 ⟨lc,lo,lh,ld⟩ (wr.alloc (.cells #[.int .i64 lb,.int .i64 lc,.bool lo,.bool lh,.int .i64 ld] 61)) (HJ.out _ _ _ s2) (by rw[s1];simp)
      simp only[bunV] at hy
      have db:(lb == k)=true:=by simp[hb]
      have S1:=AS s1
      have S3:=AS (s3.alloc (.cells #[.int .i64 lb,.int .i64 lc,.bool lo,.bool lh,.int .i64 ld] 61))
      have HB:=AS hb
      clear s1 s2 s3 hst hb
      gi_wp2
      refine hR.mono ?_
      rintro e w3 (⟨rfl,hJ3,hk3⟩ | ⟨rfl,hJx3⟩)
      ·have R3:=AS (show ∃ pre,toksB k lss hs fl=pre ++ (lnsB k (ls.drop (j+1)) ++ ((lss.drop (i+1)).flatMap (lnsB k) ++ (homB k hs ++ letsB k fl)))/\J pre w3/\KS G W w3 from⟨_,by rw[S1.out];simp,hJ3,S3.out.trans hk3 (fun _ _ h=>h)⟩)
       clear hJ3 hk3 hR hy
       gi_wp2
       go_roundw
       case rel=>exact⟨j+1,by go_num,by omega,R3⟩
       case measure=>simp[intOf];omega
      ·gi_wp2
       refine bodyPost_ret (results_none rfl _ _ _) rfl ?_
       exact⟨⟨_,rfl⟩,.inr ⟨_,⟨_,by rw[S1.out,List.append_assoc];rfl⟩,hJx3⟩⟩
     ·rw[if_neg hb] at hst
      rw[hst] at s1
      have db:(lb == k)=false:=by simp[hb]
      have R3:=AS (show ∃ pre,toksB k lss hs fl=pre ++ (lnsB k (ls.drop (j+1)) ++ ((lss.drop (i+1)).flatMap (lnsB k) ++ (homB k hs ++ letsB k fl)))/\J pre (wr.alloc (.cells #[.int .i64 lb,.int .i64 lc,.bool lo,.bool lh,.int .i64 ld] 61))/\KS G W (wr.alloc (.cells #[.int .i64 lb,.int .i64 lc,.bool lo,.bool lh,.int .i64 ld] 61)) from⟨_,s1,HJ.out _ _ _ s2,s3.alloc _⟩)
      clear s1 s2 s3 hst
      gi_wp2
      refine⟨fun _ h=>(by cases h),?_⟩
      gi_wp2
      go_roundw
      case rel=>exact⟨j+1,by go_num,by omega,R3⟩
      case measure=>simp[intOf];omega
    ·have hjn:j=ls.length:=by omega
     subst hjn
     rw[List.drop_length] at s1
     have R2:=AS (show ∃ pre,toksB k lss hs fl=pre ++ ((lss.drop (i+1)).flatMap (lnsB k) ++ (homB k hs ++ letsB k fl))/\J pre wr/\KS G W wr from⟨pre2,s1,s2,s3⟩)
     clear s1 s2 s3
     gi_wp2
     go_roundw
     case rel=>exact⟨i+1,by go_num,by omega,R2⟩
     case measure=>simp[intOf];omega
  ·have hin:i=ps.length:=by omega
   subst hin
   have hdn:lss.drop ps.length=[]:=by rw[<- HS.out.len,List.drop_length]
   rw[hdn] at r1
   obtain⟨kn,hkn⟩:∃ kn:Nat,k=kn:=⟨k.toNat,by omega⟩
   have hkl:kn < hs.length:=by omega
   have hhb:homB k hs=[hs.getD kn b0]:=by unfold homB;rw[if_pos ⟨hk0,hk1⟩,hkn];rfl
   rw[hhb] at r1
   have OH:=AS (HS.out.hom.ks r3 HS.out.far.2.2.2.2.1)
   obtain⟨gh,ch',e,-,-,hgl,hcell⟩:=own_some OH.out hkl
   injection e with e1 e2 e3
   subst e1 e3
   have n0:wr.cell? ⟨gh,kn * 4,none⟩=some (.int .i64 (hs.getD kn b0).count):=(hcell 0 (by decide)).trans rfl
   have n1:wr.cell? ⟨gh,kn * 4+1,none⟩=some (.bool (hs.getD kn b0).owner):=(hcell 1 (by decide)).trans rfl
   have n2:wr.cell? ⟨gh,kn * 4+2,none⟩=some (.bool (hs.getD kn b0).has):=(hcell 2 (by decide)).trans rfl
   have n3:wr.cell? ⟨gh,kn * 4+3,none⟩=some (.int .i64 (hs.getD kn b0).data):=(hcell 3 (by decide)).trans rfl
   obtain⟨x,hx⟩:∃ x,hs.getD kn b0=x:=⟨_,rfl⟩
   rw[hx] at n0 n1 n2 n3 r1
   obtain⟨lc,lo,lh,ld⟩:=x
   simp only at n0 n1 n2 n3
   have kb:wr.cell? ⟨bb,0,none⟩=some (.int .i64 kn):=by rw[<- hkn];exact(cw (r3.at_ HS.out.boxk HS.out.far.2.1) 0)
   have cb3:=cw (r3.at_ HS.out.box HS.out.far.1) 3 (v:=.slice (some ⟨gh,0,none⟩) hs.length ch)
   obtain⟨fn,tmps,assign,body,hy,hR⟩:=HY.out pre ⟨lc,lo,lh,ld⟩ wr r2 (by rw[r1];simp)
   simp only[bunV] at hy
   have S1:=AS r1
   have S3:=AS r3
   have HKN:=AS hkn
   have qk0:(0:Int)≤(kn:Int):=by omega
   have qk1:(kn:Int) < (hs.length:Int):=by omega
   clear r1 r2 r3 hcell hx hhb hdn hkn
   gi_wp2
   refine hR.mono ?_
   rintro e w3 (⟨rfl,hJ3,hk3⟩ | ⟨rfl,hJx3⟩)
   ·have R3:=AS (show ∃ pre,toksB k lss hs fl=pre ++ letsB k (fl.drop 0)/\J pre w3/\KS G W w3 from⟨_,by rw[S1.out];simp,hJ3,S3.out.trans hk3 (fun _ _ h=>h)⟩)
    have cb4:=cw (hk3.at_ (S3.out.at_ HS.out.box HS.out.far.1) HS.out.far.1) 4 (v:=.slice Af fl.length cf)
    clear hJ3 hk3 hR hy
    gi_wp2
    gi_loopw [9,59] (fun v9 v59 wr=>∃ j:Nat,v59=.int .i64 j/\j≤fl.length/\Aside0 (∃ pre,toksB k lss hs fl=pre ++ letsB k (fl.drop j)/\J pre wr/\KS G W wr)) (fun _ v59 _=>fl.length+1 - (intOf v59).toNat)
    case atStart=>exact⟨0,rfl,by omega,R3⟩
    case round =>
     obtain⟨j,rfl,hj,RJ⟩:=hrel
     obtain⟨pre2,s1,s2,s3⟩:=RJ.out
     by_cases hjj:j < fl.length
     ·have q2:(0:Int)≤(j:Int):=by omega
      have q3:(j:Int) < (fl.length:Int):=by omega
      have LR:=AS (HS.out.flt.ks s3 HS.out.far.2.2.2.2.2)
      obtain⟨gl,cl2,e,hb3,hb4,hgl2,hcell⟩:=own_some LR.out hjj
      injection e with e1 e2 e3
      subst e1 e3
      have z0:wr.cell? ⟨gl,j * 11,none⟩=some (.int .i64 (fl.getD j let0).kind):=(hcell 0 (by decide)).trans rfl
      have z1:wr.cell? ⟨gl,j * 11+1,none⟩=some (.int .i64 (fl.getD j let0).src):=(hcell 1 (by decide)).trans rfl
      have z2:wr.cell? ⟨gl,j * 11+2,none⟩=some (.int .i64 (fl.getD j let0).dst):=(hcell 2 (by decide)).trans rfl
      have z3:wr.cell? ⟨gl,j * 11+3,none⟩=some (.int .i64 (fl.getD j let0).block):=(hcell 3 (by decide)).trans rfl
      have z4:wr.cell? ⟨gl,j * 11+4,none⟩=some (.int .i64 (fl.getD j let0).seq):=(hcell 4 (by decide)).trans rfl
      have z5:wr.cell? ⟨gl,j * 11+5,none⟩=some (.int .i64 (fl.getD j let0).who):=(hcell 5 (by decide)).trans rfl
      have z6:wr.cell? ⟨gl,j * 11+6,none⟩=some (.bool (fl.getD j let0).write):=(hcell 6 (by decide)).trans rfl
      have z7:wr.cell? ⟨gl,j * 11+7,none⟩=some (.int .i64 (fl.getD j let0).bun.count):=(hcell 7 (by decide)).trans rfl
      have z8:wr.cell? ⟨gl,j * 11+8,none⟩=some (.bool (fl.getD j let0).bun.owner):=(hcell 8 (by decide)).trans rfl
      have z9:wr.cell? ⟨gl,j * 11+9,none⟩=some (.bool (fl.getD j let0).bun.has):=(hcell 9 (by decide)).trans rfl
      have z10:wr.cell? ⟨gl,j * 11+10,none⟩=some (.int .i64 (fl.getD j let0).bun.data):=(hcell 10 (by decide)).trans rfl
      have hst:=letsB_step k fl hjj
      obtain⟨x,hx⟩:∃ x,fl.getD j let0=x:=⟨_,rfl⟩
      rw[show letE.d=let0 from rfl,hx] at hst
      rw[hx] at z0 z1 z2 z3 z4 z5 z6 z7 z8 z9 z10
      obtain⟨xk,xf,xt,xb,xq,xw,xr,⟨xc,xo,xh,xd⟩⟩:=x
      simp only at hst z0 z1 z2 z3 z4 z5 z6 z7 z8 z9 z10
      have kb2:wr.cell? ⟨bb,0,none⟩=some (.int .i64 kn):=by rw[<- HKN.out];exact(cw (s3.at_ HS.out.boxk HS.out.far.2.1) 0)
      clear hx hcell
      by_cases hxk:xk=1
      ·have dk:(xk == 1)=true:=by simp[hxk]
       by_cases hxb:xb=kn
       ·have db:(xb == (kn:Int))=true:=by simp[hxb]
        rw[if_pos ⟨hxk,by rw[HKN.out];exact hxb⟩] at hst
        rw[hst] at s1
        obtain⟨fn,tmps,assign,body,hy,hR⟩:=HY.out pre2 ⟨xc,xo,xh,xd⟩ (wr.alloc (.cells #[.int .i64 xk,.int .i64 xf,.int .i64 xt,.int .i64 xb,.int .i64 xq,.int .i64 xw,.bool xr,.int .i64 xc,.bool xo,.bool xh,.int .i64 xd] 47)) (HJ.out _ _ _ s2) (by rw[s1];simp)
        simp only[bunV] at hy
        have S1:=AS s1
        have S3:=AS (s3.alloc (.cells #[.int .i64 xk,.int .i64 xf,.int .i64 xt,.int .i64 xb,.int .i64 xq,.int .i64 xw,.bool xr,.int .i64 xc,.bool xo,.bool xh,.int .i64 xd] 47))
        have HB:=AS (And.intro hxk hxb)
        clear s1 s2 s3 hst hxk hxb
        gi_wp2
        refine hR.mono ?_
        rintro e w4 (⟨rfl,hJ3,hk3⟩ | ⟨rfl,hJx3⟩)
        ·have R3:=AS (show ∃ pre,toksB k lss hs fl=pre ++ letsB k (fl.drop (j+1))/\J pre w4/\KS G W w4 from⟨_,by rw[S1.out];simp,hJ3,S3.out.trans hk3 (fun _ _ h=>h)⟩)
         clear hJ3 hk3 hR hy
         gi_wp2
         go_roundw
         case rel=>exact⟨j+1,by go_num,by omega,R3⟩
         case measure=>simp[intOf];omega
        ·gi_wp2
         refine bodyPost_ret (results_none rfl _ _ _) rfl ?_
         exact⟨⟨_,rfl⟩,.inr ⟨_,⟨_,by rw[S1.out,List.append_assoc];rfl⟩,hJx3⟩⟩
       ·have db:(xb == (kn:Int))=false:=by simp[hxb]
        rw[if_neg (fun h=>hxb (by rw[<- HKN.out];exact h.2))] at hst
        rw[hst] at s1
        have R3:=AS (show ∃ pre,toksB k lss hs fl=pre ++ letsB k (fl.drop (j+1))/\J pre (wr.alloc (.cells #[.int .i64 xk,.int .i64 xf,.int .i64 xt,.int .i64 xb,.int .i64 xq,.int .i64 xw,.bool xr,.int .i64 xc,.bool xo,.bool xh,.int .i64 xd] 47))/\KS G W (wr.alloc (.cells #[.int .i64 xk,.int .i64 xf,.int .i64 xt,.int .i64 xb,.int .i64 xq,.int .i64 xw,.bool xr,.int .i64 xc,.bool xo,.bool xh,.int .i64 xd] 47)) from⟨_,s1,HJ.out _ _ _ s2,s3.alloc _⟩)
        have HB:=AS (And.intro hxk hxb)
        clear s1 s2 s3 hst hxk hxb
        gi_wp2
        refine⟨fun _ h=>(by cases h),?_⟩
        gi_wp2
        go_roundw
        case rel=>exact⟨j+1,by go_num,by omega,R3⟩
        case measure=>simp[intOf];omega
      ·have dk:(xk == 1)=false:=by simp[hxk]
       rw[if_neg (fun h=>hxk h.1)] at hst
       rw[hst] at s1
       have R3:=AS (show ∃ pre,toksB k lss hs fl=pre ++ letsB k (fl.drop (j+1))/\J pre (wr.alloc (.cells #[.int .i64 xk,.int .i64 xf,.int .i64 xt,.int .i64 xb,.int .i64 xq,.int .i64 xw,.bool xr,.int .i64 xc,.bool xo,.bool xh,.int .i64 xd] 47))/\KS G W (wr.alloc (.cells #[.int .i64 xk,.int .i64 xf,.int .i64 xt,.int .i64 xb,.int .i64 xq,.int .i64 xw,.bool xr,.int .i64 xc,.bool xo,.bool xh,.int .i64 xd] 47)) from⟨_,s1,HJ.out _ _ _ s2,s3.alloc _⟩)
       clear s1 s2 s3 hst
       gi_wp2
       refine⟨fun _ h=>(by cases h),?_⟩
       gi_wp2
       go_roundw
       case rel=>exact⟨j+1,by go_num,by omega,R3⟩
       case measure=>simp[intOf];omega
     ·have hjn:j=fl.length:=by omega
      subst hjn
      rw[List.drop_length] at s1
      have E1:=AS (show toksB k lss hs fl=pre2 from s1.trans (by simp[letsB]))
      clear s1
      gi_wp2
      go_end0
      exact⟨⟨_,rfl⟩,.inl ⟨pre2,E1.out.symm,s2⟩⟩
   ·gi_wp2
    refine bodyPost_ret (results_none rfl _ _ _) rfl ?_
    exact⟨⟨_,rfl⟩,.inr ⟨_,⟨_,by rw[S1.out,List.append_assoc];rfl⟩,hJx3⟩⟩
end Go.Proofs.YtiebppkhaiofeaaGreat.K
