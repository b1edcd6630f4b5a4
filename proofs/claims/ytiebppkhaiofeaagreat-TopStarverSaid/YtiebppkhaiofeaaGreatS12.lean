/- Part of the proof of TopStarver: what functions of the program do. -/
import Derived.Test.YtiebppkhaiofeaaGreatS11
set_option maxHeartbeats 4000000
set_option maxRecDepth 100000
set_option linter.unusedVariables false
set_option linter.unusedSimpArgs false
namespace Go.Proofs.YtiebppkhaiofeaaGreat.K
open Go.RowKit Go.Proofs.YtiebppkhaiofeaaGreatW.PrintWords Go.Proofs.YtiebppkhaiofeaaGreat.S
attribute [local go_sem] World.cell?_alloc_some frz_alloc'
theorem spread_any (k s b q wh n:Int) (w:Go.World):Calls Tryz.prog 127 #[.int .i64 k,.int .i64 s,.int .i64 b,.int .i64 q,.int .i64 wh,.int .i64 n] w fun e w'=>∃ v,e=.returned v/\OwnE letE v (spread k s b q wh n) w'/\Below w.heap.size w w'/\(∀ x∈foot v,w.heap.size≤x):=by
 have hn:(n < 0/\max (min n 64) 0=0)∨(0≤n/\n≤64/\max (min n 64) 0=n)∨(64 < n/\max (min n 64) 0=64):=by omega
 have hsp:=AS (show spread k s b q wh n=spN k s b q wh (max (min n 64) 0).toNat from rfl)
 rw[hsp.out]
 rcases hn with ⟨h1,h2⟩ | ⟨h1,h3,h2⟩ | ⟨h1,h2⟩
 ·rw[h2]
  clear h2 hsp
  go_enter Tryz.func127,Tryz.ntmps127
  go_wp2
  go_loopw [13,18] (fun v13 v18 wr=>∃ (i:Nat),v18=.int .i64 i/\(i:Int)≤0/\Aside0 (OwnE letE v13 (spN k s b q wh i) wr/\Below w.heap.size w wr/\(∀ x∈foot v13,w.heap.size≤x))) (fun _ v18 _=>65 - (intOf v18).toNat)
  case atStart=>exact⟨0,rfl,by omega,⟨OwnE.nil _,Below.refl _ _,by simp[foot_nil]⟩⟩
  case round =>
   obtain⟨i,rfl,hi,R⟩:=hrel
   obtain⟨A,c,rfl,-,hc,-,-⟩:=R.out.1.row
   by_cases c1:(i:Int) < 0
   ·exact absurd c1 (by omega)
   ·have hik:(i:Int)=0:=by omega
    have HI:=AS hik
    clear hik
    go_wp2
    go_ret
    refine⟨_,rfl,?_,R.out.2.1,R.out.2.2⟩
    show OwnE letE _ (spN k s b q wh (Int.toNat 0)) _
    rw[show Int.toNat 0=i by have:=HI.out;omega]
    exact R.out.1
 ·rw[h2]
  clear h2 hsp
  go_enter Tryz.func127,Tryz.ntmps127
  go_wp2
  go_loopw [13,18] (fun v13 v18 wr=>∃ (i:Nat),v18=.int .i64 i/\(i:Int)≤n/\Aside0 (OwnE letE v13 (spN k s b q wh i) wr/\Below w.heap.size w wr/\(∀ x∈foot v13,w.heap.size≤x))) (fun _ v18 _=>65 - (intOf v18).toNat)
  case atStart=>exact⟨0,rfl,by omega,⟨OwnE.nil _,Below.refl _ _,by simp[foot_nil]⟩⟩
  case round =>
   obtain⟨i,rfl,hi,R⟩:=hrel
   obtain⟨A,c,rfl,-,hc,-,-⟩:=R.out.1.row
   by_cases c1:(i:Int) < n
   ·have X:=AS (blk_new wr (.cells (letC ⟨k,s,i,b,q,wh,false,b0⟩).toArray 47))
    have RW:=AS (rowE_one (E:=letE) (x:=⟨k,s,i,b,q,wh,false,b0⟩) X.out)
    have O:=AS (R.out.1.keep (Keeps.below [] (below_alloc (Below.refl _ wr) (.cells (letC ⟨k,s,i,b,q,wh,false,b0⟩).toArray 47))) (by simp))
    have B:=AS (below_alloc R.out.2.1 (.cells (letC ⟨k,s,i,b,q,wh,false,b0⟩).toArray 47))
    have FT:=AS R.out.2.2
    have hi64:i < 64:=by omega
    have HL:=AS (show(spN k s b q wh i).length=i by simp[spN])
    clear R
    go_wp2_with (at_builtin;refine list_appE (E:=letE) (xs:=spN k s b q wh i) (ys:=[⟨k,s,i,b,q,wh,false,b0⟩]) (by kernel_rfl) _ _ rfl rfl rfl rfl (by exact O.out) (by exact RW.out) (by have:=HL.out;show _ * 80≤_;simp;omega) ?_;intro v1 w1 hO hK hf;obtain⟨A1,n1,k1,rfl⟩:∃ A n c,v1=.slice A n c:=(by obtain⟨A,c,h,_⟩:=OwnE.row hO;exact⟨_,_,_,h⟩);have O1:=AS hO;have K1:=AS hK;have F1:=AS hf;clear hO hK hf)
    go_roundw
    case rel =>
     refine⟨i+1,by go_num,by omega,⟨?_,?_,?_⟩⟩
     ·rw[show spN k s b q wh (i+1)=spN k s b q wh i ++ [⟨k,s,i,b,q,wh,false,b0⟩] by simp[spN,List.range_succ]]
      exact O1.out
     ·exact B.out.trans (K1.out.toBelow FT.out (by have:=B.out.size;simpa using this))
     ·intro x hx
      rcases F1.out with e | e
      ·rw[e] at hx;exact FT.out x hx
      ·rw[e] at hx;have h2:=B.out.size;simp at hx h2;omega
    case measure=>simp[intOf];omega
   ·have hik:(i:Int)=n:=by omega
    have HI:=AS hik
    clear hik
    go_wp2
    go_ret
    refine⟨_,rfl,?_,R.out.2.1,R.out.2.2⟩
    show OwnE letE _ (spN k s b q wh (Int.toNat n)) _
    rw[show Int.toNat n=i by have:=HI.out;omega]
    exact R.out.1
 ·rw[h2]
  clear h2 hsp
  go_enter Tryz.func127,Tryz.ntmps127
  go_wp2
  go_loopw [13,18] (fun v13 v18 wr=>∃ (i:Nat),v18=.int .i64 i/\(i:Int)≤64/\Aside0 (OwnE letE v13 (spN k s b q wh i) wr/\Below w.heap.size w wr/\(∀ x∈foot v13,w.heap.size≤x))) (fun _ v18 _=>65 - (intOf v18).toNat)
  case atStart=>exact⟨0,rfl,by omega,⟨OwnE.nil _,Below.refl _ _,by simp[foot_nil]⟩⟩
  case round =>
   obtain⟨i,rfl,hi,R⟩:=hrel
   obtain⟨A,c,rfl,-,hc,-,-⟩:=R.out.1.row
   by_cases c1:(i:Int) < 64
   ·have X:=AS (blk_new wr (.cells (letC ⟨k,s,i,b,q,wh,false,b0⟩).toArray 47))
    have RW:=AS (rowE_one (E:=letE) (x:=⟨k,s,i,b,q,wh,false,b0⟩) X.out)
    have O:=AS (R.out.1.keep (Keeps.below [] (below_alloc (Below.refl _ wr) (.cells (letC ⟨k,s,i,b,q,wh,false,b0⟩).toArray 47))) (by simp))
    have B:=AS (below_alloc R.out.2.1 (.cells (letC ⟨k,s,i,b,q,wh,false,b0⟩).toArray 47))
    have FT:=AS R.out.2.2
    have hi64:i < 64:=by omega
    have HL:=AS (show(spN k s b q wh i).length=i by simp[spN])
    clear R
    go_wp2_with (at_builtin;refine list_appE (E:=letE) (xs:=spN k s b q wh i) (ys:=[⟨k,s,i,b,q,wh,false,b0⟩]) (by kernel_rfl) _ _ rfl rfl rfl rfl (by exact O.out) (by exact RW.out) (by have:=HL.out;show _ * 80≤_;simp;omega) ?_;intro v1 w1 hO hK hf;obtain⟨A1,n1,k1,rfl⟩:∃ A n c,v1=.slice A n c:=(by obtain⟨A,c,h,_⟩:=OwnE.row hO;exact⟨_,_,_,h⟩);have O1:=AS hO;have K1:=AS hK;have F1:=AS hf;clear hO hK hf)
    go_roundw
    case rel =>
     refine⟨i+1,by go_num,by omega,⟨?_,?_,?_⟩⟩
     ·rw[show spN k s b q wh (i+1)=spN k s b q wh i ++ [⟨k,s,i,b,q,wh,false,b0⟩] by simp[spN,List.range_succ]]
      exact O1.out
     ·exact B.out.trans (K1.out.toBelow FT.out (by have:=B.out.size;simpa using this))
     ·intro x hx
      rcases F1.out with e | e
      ·rw[e] at hx;exact FT.out x hx
      ·rw[e] at hx;have h2:=B.out.size;simp at hx h2;omega
    case measure=>simp[intOf];omega
   ·have hik:(i:Int)=64:=by omega
    have HI:=AS hik
    clear hik
    go_wp2
    go_ret
    refine⟨_,rfl,?_,R.out.2.1,R.out.2.2⟩
    show OwnE letE _ (spN k s b q wh (Int.toNat 64)) _
    rw[show Int.toNat 64=i by have:=HI.out;omega]
    exact R.out.1
end Go.Proofs.YtiebppkhaiofeaaGreat.K
namespace Go.Proofs.YtiebppkhaiofeaaGreat.K
open Go.RowKit Go.Proofs.YtiebppkhaiofeaaGreatW.PrintWords Go.Proofs.YtiebppkhaiofeaaGreat.S
attribute [local go_sem] World.cell?_alloc_some
def tgN (c:Cfg) (self:Int) (d:Drw) (n:Nat):List Int:=((List.range n).map fun(i:Nat)=>(i:Int)).filter fun n=>S.asks c d n && n != self
theorem tgN_succ (c:Cfg) (self:Int) (d:Drw) (n:Nat):tgN c self d (n+1)=if (S.asks c d n && (n:Int) != self)=true then tgN c self d n ++ [(n:Int)] else tgN c self d n:=by
 unfold tgN
 rw[List.range_succ,List.map_append,List.filter_append]
 by_cases h:(S.asks c d n && (n:Int) != self)=true
 ·rw[if_pos h];simp only[List.map_cons,List.map_nil,List.filter_cons,h,if_true,List.filter_nil]
 ·rw[if_neg h]
  have h':(S.asks c d n && (n:Int) != self)=false:=by simpa using h
  simp only[List.map_cons,List.map_nil,List.filter_cons,h',List.filter_nil,List.append_nil,Bool.false_eq_true,if_false]
theorem tgN_len (c:Cfg) (self:Int) (d:Drw) (n:Nat):(tgN c self d n).length≤n:=by
 unfold tgN
 refine Nat.le_trans (List.length_filter_le _ _) (by simp)
def NewInts (xs:List Int) (w:Go.World) (e:Ending) (w':Go.World):Prop:=∃ v,e=.returned v/\OwnE intE v xs w'/\(∀ x∈foot v,w.heap.size≤x)/\Below w.heap.size w w'
theorem targets_any (c:Cfg) (self:Int) (d:Drw) (w:Go.World):Calls Tryz.prog 113 #[cfgV c,.int .i64 self,drwV d] w (NewInts (targets c self d) w):=by
 obtain⟨nn,b,t,se,wa,ca,wt,tr,po⟩:=c
 obtain⟨x,y,z⟩:=d
 simp only[cfgV,drwV]
 have XC:=AS (blk_alloc (blk_new w (.cells #[.int .i64 nn,.int .i64 b,.int .i64 t,.int .i64 se,.int .i64 wa,.int .i64 ca,.int .i64 wt,.int .i64 tr,.int .i64 po] 23)) (.cells #[.int .i64 x,.int .i64 y,.int .i64 z] 74))
 have XD:=AS (show((w.alloc (.cells #[.int .i64 nn,.int .i64 b,.int .i64 t,.int .i64 se,.int .i64 wa,.int .i64 ca,.int .i64 wt,.int .i64 tr,.int .i64 po] 23)).alloc (.cells #[.int .i64 x,.int .i64 y,.int .i64 z] 74)).heap[w.heap.size+1]?=some (.cells #[.int .i64 x,.int .i64 y,.int .i64 z] 74) from by have:=blk_new (w.alloc (.cells #[.int .i64 nn,.int .i64 b,.int .i64 t,.int .i64 se,.int .i64 wa,.int .i64 ca,.int .i64 wt,.int .i64 tr,.int .i64 po] 23)) (.cells #[.int .i64 x,.int .i64 y,.int .i64 z] 74);simpa using this)
 have B0:=AS (below_alloc (below_alloc (Below.refl w.heap.size w) (.cells #[.int .i64 nn,.int .i64 b,.int .i64 t,.int .i64 se,.int .i64 wa,.int .i64 ca,.int .i64 wt,.int .i64 tr,.int .i64 po] 23)) (.cells #[.int .i64 x,.int .i64 y,.int .i64 z] 74))
 by_cases q1:nn > 64
 ·rw[show targets ⟨nn,b,t,se,wa,ca,wt,tr,po⟩ self ⟨x,y,z⟩=[] from if_pos q1]
  go_enter Tryz.func113,Tryz.ntmps113
  go_wp2
  go_ret
  exact⟨_,rfl,OwnE.nil _,by simp[foot_nil],B0.out⟩
 ·rw[show targets ⟨nn,b,t,se,wa,ca,wt,tr,po⟩ self ⟨x,y,z⟩=tgN ⟨nn,b,t,se,wa,ca,wt,tr,po⟩ self ⟨x,y,z⟩ (nn+1).toNat from if_neg q1]
  have q1':¬ (64 < nn):=by omega
  clear q1
  go_enter Tryz.func113,Tryz.ntmps113
  go_wp2
  generalize ((w.alloc (.cells #[.int .i64 nn,.int .i64 b,.int .i64 t,.int .i64 se,.int .i64 wa,.int .i64 ca,.int .i64 wt,.int .i64 tr,.int .i64 po] 23)).alloc (.cells #[.int .i64 x,.int .i64 y,.int .i64 z] 74))=W0 at XC XD B0 ⊢
  go_loopw [7,8] (fun v7 v8 wr=>∃ (i:Nat),v8=.int .i64 i/\((i:Int)≤nn+1∨i=0)/\Aside0 (OwnE intE v7 (tgN ⟨nn,b,t,se,wa,ca,wt,tr,po⟩ self ⟨x,y,z⟩ i) wr/\Below w.heap.size w wr/\(∀ x∈foot v7,w.heap.size≤x)/\wr.heap[w.heap.size]?=some (.cells #[.int .i64 nn,.int .i64 b,.int .i64 t,.int .i64 se,.int .i64 wa,.int .i64 ca,.int .i64 wt,.int .i64 tr,.int .i64 po] 23)/\wr.heap[w.heap.size+1]?=some (.cells #[.int .i64 x,.int .i64 y,.int .i64 z] 74)/\∀ q∈foot v7,q≠w.heap.size/\q≠w.heap.size+1)) (fun _ v8 _=>70 - (intOf v8).toNat)
  case atStart=>exact⟨0,rfl,.inr rfl,⟨OwnE.nil _,B0.out,by simp[foot_nil],XC.out,XD.out,by simp[foot_nil]⟩⟩
  case round =>
   obtain⟨i,rfl,hi,R⟩:=hrel
   obtain⟨A,cp,rfl,-,hcp,-,-⟩:=R.out.1.row
   have c0:=cw R.out.2.2.2.1 0 (v:=.int .i64 nn)
   have c1:=cw R.out.2.2.2.1 1 (v:=.int .i64 b)
   have c2:=cw R.out.2.2.2.1 2 (v:=.int .i64 t)
   have c3:=cw R.out.2.2.2.1 3 (v:=.int .i64 se)
   have c4:=cw R.out.2.2.2.1 4 (v:=.int .i64 wa)
   have c5:=cw R.out.2.2.2.1 5 (v:=.int .i64 ca)
   have c6:=cw R.out.2.2.2.1 6 (v:=.int .i64 wt)
   have c7:=cw R.out.2.2.2.1 7 (v:=.int .i64 tr)
   have c8:=cw R.out.2.2.2.1 8 (v:=.int .i64 po)
   have d0:=cw R.out.2.2.2.2.1 0 (v:=.int .i64 x)
   have d1:=cw R.out.2.2.2.2.1 1 (v:=.int .i64 y)
   have d2:=cw R.out.2.2.2.2.1 2 (v:=.int .i64 z)
   by_cases c1:(i:Int)≤nn
   ·have hi64:i≤64:=by omega
    have hqr:((i:Int).tdiv 64=0/\(i:Int).tmod 64=i)∨((i:Int).tdiv 64=1/\(i:Int).tmod 64=0/\i=64):=by
     by_cases h:i=64
     ·subst h;exact .inr (by decide)
     ·exact .inl ⟨Int.tdiv_eq_zero_of_lt (by omega) (by omega),Int.tmod_eq_of_lt (by omega) (by omega)⟩
    generalize hbv:bitOf (Drw.get ⟨x,y,z⟩ ((i:Int).tdiv 64)) ((i:Int).tmod 64)=bv
    by_cases p1:po=1
    ·subst p1
     have HAS:=AS (show S.asks ⟨nn,b,t,se,wa,ca,wt,tr,1⟩ ⟨x,y,z⟩ i=true from rfl)
     have HBV:=AS hbv
     clear hbv hqr
     by_cases ns:(i:Int)=self
     ·subst ns
      have HNS:=AS (show ¬ (true && ((i:Int) != (i:Int)))=true by simp)
      have RR:=AS R.out
      clear R
      go_wp2_with (go_at_call 144;refine(bit_any _ _ _).mono ?_;rintro e wb ⟨rfl,rfl⟩;rw[HBV.out])
      go_roundw
      case rel =>
       refine⟨i+1,by go_num,by omega,⟨?_,RR.out.2⟩⟩
       rw[tgN_succ,if_neg (by rw[HAS.out];exact HNS.out)]
       exact RR.out.1
      case measure=>simp[intOf];omega
     ·have HNS:=AS (show((i:Int) != self)=true by simp[ns])
      have hns:((i:Int) != self)=true:=HNS.out
      clear ns
      have OA:=AS (R.out.1.keep (Keeps.below [] (below_alloc (Below.refl _ wr) (.cells #[.int .i64 (i:Int)] 3))) (by simp))
      have RA:=AS (rowE_one (E:=intE) (x:=(i:Int)) (blk_new wr (.cells #[.int .i64 (i:Int)] 3)))
      have BA:=AS (below_alloc R.out.2.1 (.cells #[.int .i64 (i:Int)] 3))
      have XA:=AS (And.intro (blk_alloc R.out.2.2.2.1 (.cells #[.int .i64 (i:Int)] 3)) (blk_alloc R.out.2.2.2.2.1 (.cells #[.int .i64 (i:Int)] 3)))
      have FT:=AS (And.intro R.out.2.2.1 R.out.2.2.2.2.2)
      have HL:=AS (tgN_len ⟨nn,b,t,se,wa,ca,wt,tr,1⟩ self ⟨x,y,z⟩ i)
      clear R
      go_wp2_with (first | (at_builtin;refine list_appE (E:=intE) (xs:=tgN ⟨nn,b,t,se,wa,ca,wt,tr,1⟩ self ⟨x,y,z⟩ i) (ys:=[(i:Int)]) (by kernel_rfl) _ _ rfl rfl rfl rfl (by exact OA.out) (by exact RA.out) (by have:=HL.out;show _ * 8≤_;simp;omega) ?_;intro v1 w1 hO hK hf;obtain⟨A1,n1,k1,rfl⟩:∃ A n c,v1=.slice A n c:=(by obtain⟨A,c,h,_⟩:=OwnE.row hO;exact⟨_,_,_,h⟩);have O1:=AS hO;have K1:=AS hK;have F1:=AS hf;clear hO hK hf) | (go_at_call 144;refine(bit_any _ _ _).mono ?_;rintro e wb ⟨rfl,rfl⟩;rw[HBV.out]))
      go_roundw
      case rel =>
       have hs:=BA.out.size
       rw[World.size_alloc] at hs
       have hnf:∀ q∈foot (.slice A (tgN ⟨nn,b,t,se,wa,ca,wt,tr,1⟩ self ⟨x,y,z⟩ i).length cp),q≠w.heap.size/\q≠w.heap.size+1:=FT.out.2
       refine⟨i+1,by go_num,by omega,⟨?_,?_,?_,?_,?_,?_⟩⟩
       ·rw[tgN_succ,if_pos (by rw[HAS.out,HNS.out];rfl)]
        exact O1.out
       ·exact BA.out.trans (K1.out.toBelow FT.out.1 (by simpa using hs))
       ·intro q hq
        rcases F1.out with e | e
        ·rw[e] at hq;exact FT.out.1 q hq
        ·rw[e] at hq;simp at hq;omega
       ·exact K1.out.at_ XA.out.1 (fun h=>(hnf _ h).1 rfl)
       ·exact K1.out.at_ XA.out.2 (fun h=>(hnf _ h).2 rfl)
       ·intro q hq
        rcases F1.out with e | e
        ·rw[e] at hq;exact hnf q hq
        ·rw[e] at hq;simp at hq;have:=blk_lt XA.out.2;simp at this;omega
      case measure=>simp[intOf];omega
    ·by_cases p2:po=2
     ·subst p2
      have HAS:=AS (show S.asks ⟨nn,b,t,se,wa,ca,wt,tr,2⟩ ⟨x,y,z⟩ i=bv by rw[<- hbv];rfl)
      have hbt:((i:Int).tdiv 64=0/\(i:Int).tmod 64=i/\bitOf x i=bv)∨((i:Int).tdiv 64=1/\(i:Int).tmod 64=0/\bitOf y 0=bv):=by
       rcases hqr with ⟨h1,h2⟩ | ⟨h1,h2,-⟩
       ·rw[h1,h2] at hbv;exact .inl ⟨h1,h2,hbv⟩
       ·rw[h1,h2] at hbv;exact .inr ⟨h1,h2,hbv⟩
      clear hbv hqr
      cases bv
      ·have HNS:=AS (show ¬ (false && ((i:Int) != self))=true by simp)
       rcases hbt with ⟨ht1,ht2,hbv⟩ | ⟨ht1,ht2,hbv⟩
       all_goals
        have HBV:=AS hbv
        clear hbv
        have RR:=AS R.out
        clear R
        go_wp2_with (go_at_call 144;refine(bit_any _ _ _).mono ?_;rintro e wb ⟨rfl,rfl⟩;rw[HBV.out])
        go_roundw
        case rel =>
         refine⟨i+1,by go_num,by omega,⟨?_,RR.out.2⟩⟩
         rw[tgN_succ,if_neg (by rw[HAS.out];exact HNS.out)]
         exact RR.out.1
        case measure=>simp[intOf];omega
      ·by_cases ns:(i:Int)=self
       ·subst ns
        have HNS:=AS (show ¬ (true && ((i:Int) != (i:Int)))=true by simp)
        rcases hbt with ⟨ht1,ht2,hbv⟩ | ⟨ht1,ht2,hbv⟩
        all_goals
         have HBV:=AS hbv
         clear hbv
         have RR:=AS R.out
         clear R
         go_wp2_with (go_at_call 144;refine(bit_any _ _ _).mono ?_;rintro e wb ⟨rfl,rfl⟩;rw[HBV.out])
         go_roundw
         case rel =>
          refine⟨i+1,by go_num,by omega,⟨?_,RR.out.2⟩⟩
          rw[tgN_succ,if_neg (by rw[HAS.out];exact HNS.out)]
          exact RR.out.1
         case measure=>simp[intOf];omega
       ·have HNS:=AS (show((i:Int) != self)=true by simp[ns])
        have hns:((i:Int) != self)=true:=HNS.out
        clear ns
        rcases hbt with ⟨ht1,ht2,hbv⟩ | ⟨ht1,ht2,hbv⟩
        all_goals
         have HBV:=AS hbv
         clear hbv
         have OA:=AS (R.out.1.keep (Keeps.below [] (below_alloc (Below.refl _ wr) (.cells #[.int .i64 (i:Int)] 3))) (by simp))
         have RA:=AS (rowE_one (E:=intE) (x:=(i:Int)) (blk_new wr (.cells #[.int .i64 (i:Int)] 3)))
         have BA:=AS (below_alloc R.out.2.1 (.cells #[.int .i64 (i:Int)] 3))
         have XA:=AS (And.intro (blk_alloc R.out.2.2.2.1 (.cells #[.int .i64 (i:Int)] 3)) (blk_alloc R.out.2.2.2.2.1 (.cells #[.int .i64 (i:Int)] 3)))
         have FT:=AS (And.intro R.out.2.2.1 R.out.2.2.2.2.2)
         have HL:=AS (tgN_len ⟨nn,b,t,se,wa,ca,wt,tr,2⟩ self ⟨x,y,z⟩ i)
         clear R
         go_wp2_with (first | (at_builtin;refine list_appE (E:=intE) (xs:=tgN ⟨nn,b,t,se,wa,ca,wt,tr,2⟩ self ⟨x,y,z⟩ i) (ys:=[(i:Int)]) (by kernel_rfl) _ _ rfl rfl rfl rfl (by exact OA.out) (by exact RA.out) (by have:=HL.out;show _ * 8≤_;simp;omega) ?_;intro v1 w1 hO hK hf;obtain⟨A1,n1,k1,rfl⟩:∃ A n c,v1=.slice A n c:=(by obtain⟨A,c,h,_⟩:=OwnE.row hO;exact⟨_,_,_,h⟩);have O1:=AS hO;have K1:=AS hK;have F1:=AS hf;clear hO hK hf) | (go_at_call 144;refine(bit_any _ _ _).mono ?_;rintro e wb ⟨rfl,rfl⟩;rw[HBV.out]))
         go_roundw
         case rel =>
          have hs:=BA.out.size
          rw[World.size_alloc] at hs
          have hnf:∀ q∈foot (.slice A (tgN ⟨nn,b,t,se,wa,ca,wt,tr,2⟩ self ⟨x,y,z⟩ i).length cp),q≠w.heap.size/\q≠w.heap.size+1:=FT.out.2
          refine⟨i+1,by go_num,by omega,⟨?_,?_,?_,?_,?_,?_⟩⟩
          ·rw[tgN_succ,if_pos (by rw[HAS.out,HNS.out];rfl)]
           exact O1.out
          ·exact BA.out.trans (K1.out.toBelow FT.out.1 (by simpa using hs))
          ·intro q hq
           rcases F1.out with e | e
           ·rw[e] at hq;exact FT.out.1 q hq
           ·rw[e] at hq;simp at hq;omega
          ·exact K1.out.at_ XA.out.1 (fun h=>(hnf _ h).1 rfl)
          ·exact K1.out.at_ XA.out.2 (fun h=>(hnf _ h).2 rfl)
          ·intro q hq
           rcases F1.out with e | e
           ·rw[e] at hq;exact hnf q hq
           ·rw[e] at hq;simp at hq;have:=blk_lt XA.out.2;simp at this;omega
         case measure=>simp[intOf];omega
     ·have HAS:=AS (show S.asks ⟨nn,b,t,se,wa,ca,wt,tr,po⟩ ⟨x,y,z⟩ i=false by simp[S.asks,p1,p2])
      have HNS:=AS (show ¬ (false && ((i:Int) != self))=true by simp)
      have HBV:=AS hbv
      have j1:(po == 1)=false:=by simpa using p1
      have j2:(po == 2)=false:=by simpa using p2
      clear hbv hqr p1 p2
      have RR:=AS R.out
      clear R
      go_wp2_with (go_at_call 144;refine(bit_any _ _ _).mono ?_;rintro e wb ⟨rfl,rfl⟩;rw[HBV.out])
      go_roundw
      case rel =>
       refine⟨i+1,by go_num,by omega,⟨?_,RR.out.2⟩⟩
       rw[tgN_succ,if_neg (by rw[HAS.out];exact HNS.out)]
       exact RR.out.1
      case measure=>simp[intOf];omega
   ·have RR:=AS R.out
    clear R
    go_wp2
    go_ret
    have hin:(nn+1).toNat=i:=by omega
    rw[hin]
    exact⟨_,rfl,RR.out.1,RR.out.2.2.1,RR.out.2.1⟩
end Go.Proofs.YtiebppkhaiofeaaGreat.K
namespace Go.Proofs.YtiebppkhaiofeaaGreat.K
open Go.RowKit Go.Proofs.YtiebppkhaiofeaaGreatW.PrintWords Go.Proofs.YtiebppkhaiofeaaGreat.S
attribute [local go_sem] World.cell?_alloc_some
open Go.ChangeMaps Go.MapKept
def NH (c:Cfg) (n:S.Node) (o:S.Out) (p:NPtr) (K:Nat->Nat) (w:Go.World) (B:List Nat) (w0 w':Go.World):Prop:=∃ K',(∀ x,x < w.heap.size->K' x=K x)/\NO c n o p K' w'/\KS (fun x=>K x≤6) w w'/\∀ x∈B,x < w'.heap.size/\K' x=7/\w'.heap[x]?=w0.heap[x]?
section
variable {c:Cfg} {n n':S.Node} {o o':S.Out} {p:NPtr} {K:Nat->Nat} {w w0 w1 w2:Go.World} {B:List Nat}
theorem NH.ns (h:NH c n o p K w B w0 w1):NS c n o p K w w1:=by obtain⟨K1,h1,h2,h3,-⟩:=h;exact⟨K1,h1,h2,h3⟩
theorem NH.at_ (h:NH c n o p K w B w0 w1):∀ x∈B,w1.heap[x]?=w0.heap[x]?:=by obtain⟨K1,-,-,-,h4⟩:=h;exact fun x hx=>(h4 x hx).2.2
theorem NS.hold (h:NS c n o p K w w1) (hb:Below w1.heap.size w1 w0) (hB:∀ x∈B,w1.heap.size≤x/\x < w0.heap.size):NH c n o p K w B w0 w0:=by
 obtain⟨K1,ha,hN,hk⟩:=h
 have hsz:=hk.size
 exact⟨rec_ K1 w1 7,fun x hx=>(rec_old (by omega)).trans (ha x hx),hN.below hb 7,hk.trans (KS.below (fun _=>False) hb) (fun x _ h=>h.elim),fun x hx=>⟨(hB x hx).2,rec_new (hB x hx).1,rfl⟩⟩
theorem NH.below (h:NH c n o p K w B w0 w1) (hb:Below w1.heap.size w1 w2):NH c n o p K w B w0 w2:=by
 obtain⟨K1,ha,hN,hk,hB⟩:=h
 have hsz:=hk.size
 have hs2:=hb.size
 exact⟨rec_ K1 w1 7,fun x hx=>(rec_old (by omega)).trans (ha x hx),hN.below hb 7,hk.trans (KS.below (fun _=>False) hb) (fun x _ h=>h.elim),fun x hx=>⟨by have:=(hB x hx).1;omega,(rec_old (hB x hx).1).trans (hB x hx).2.1,(hb.block x (hB x hx).1).trans (hB x hx).2.2⟩⟩
theorem NH.call {f:Nat} {args:Array Value} {v:Value} (h:NH c n o p K w B w0 w1) (hs:∀ K1,NO c n o p K1 w1->Calls Tryz.prog f args w1 (NOP v c n' o' p K1 w1)):Calls Tryz.prog f args w1 (fun e w'=>e=.returned v/\NH c n' o' p K w B w0 w'):=by
 obtain⟨K1,ha,hN,hk,hB⟩:=h
 refine(hs K1 hN).mono ?_
 rintro e w2 ⟨rfl,K2,hb,hN2,hk2⟩
 have hsz:=hk.size
 have hs2:=hk2.size
 exact⟨rfl,K2,fun x hx=>(hb x (by omega)).trans (ha x hx),hN2,hk.trans hk2 (fun x hx h=>by rw[<- ha x hx];exact h),fun x hx=>⟨by have:=(hB x hx).1;omega,(hb x (hB x hx).1).trans (hB x hx).2.1,(hk2.2.2.2.2 x (hB x hx).1 (by have:=(hB x hx).2.1;show ¬ K1 x≤6;omega)).trans (hB x hx).2.2⟩⟩
end
def askF (n:S.Node) (op:S.Op) (dst:Int):Let:=⟨2,n.id,dst,op.block,0,0,op.write,b0⟩
theorem nodeAsk_any {c:Cfg} {n:S.Node} {o:S.Out} {p:NPtr} {K:Nat->Nat} {w:Go.World} (hN:NO c n o p K w) (op:S.Op) (d:Drw) (hl:o.letters.length+(targets c n.id d).length≤1000000000000):Calls Tryz.prog 85 #[.pointer (some ⟨p.b,0,none⟩),opV op,drwV d,.pointer (some ⟨p.q,0,none⟩)] w (NOP (.tuple #[]) c n (n.ask c op d o) p K w):=by
 obtain⟨ob,ow,ov⟩:=op
 obtain⟨d0,d1,d2⟩:=d
 have NN:=AS (NS.refl hN)
 have HA:=AS (show n.ask c ⟨ob,ow,ov⟩ ⟨d0,d1,d2⟩ o={ o with letters:=o.letters ++ (targets c n.id ⟨d0,d1,d2⟩).map (askF n ⟨ob,ow,ov⟩)} from rfl)
 generalize n.ask c ⟨ob,ow,ov⟩ ⟨d0,d1,d2⟩ o=R at *
 have B1:=AS (below_alloc (below_alloc (Below.refl w.heap.size w) (.cells #[.int .i64 ob,.bool ow,.int .i64 ov] 50)) (.cells #[.int .i64 d0,.int .i64 d1,.int .i64 d2] 74))
 have GB:=AS (blk_alloc (blk_new w (.cells #[.int .i64 ob,.bool ow,.int .i64 ov] 50)) (.cells #[.int .i64 d0,.int .i64 d1,.int .i64 d2] 74))
 have DD:=AS (show((w.alloc (.cells #[.int .i64 ob,.bool ow,.int .i64 ov] 50)).alloc (.cells #[.int .i64 d0,.int .i64 d1,.int .i64 d2] 74)).cell? ⟨w.heap.size+1,0,none⟩=some (.int .i64 d0)/\((w.alloc (.cells #[.int .i64 ob,.bool ow,.int .i64 ov] 50)).alloc (.cells #[.int .i64 d0,.int .i64 d1,.int .i64 d2] 74)).cell? ⟨w.heap.size+1,1,none⟩=some (.int .i64 d1)/\((w.alloc (.cells #[.int .i64 ob,.bool ow,.int .i64 ov] 50)).alloc (.cells #[.int .i64 d0,.int .i64 d1,.int .i64 d2] 74)).cell? ⟨w.heap.size+1,2,none⟩=some (.int .i64 d2) from by simp[go_sem])
 have TG:=AS (targets_any c n.id ⟨d0,d1,d2⟩ ((w.alloc (.cells #[.int .i64 ob,.bool ow,.int .i64 ov] 50)).alloc (.cells #[.int .i64 d0,.int .i64 d1,.int .i64 d2] 74)).drew)
 have h1:=AS (blk_alloc (blk_alloc hN.1.1 (.cells #[.int .i64 ob,.bool ow,.int .i64 ov] 50)) (.cells #[.int .i64 d0,.int .i64 d1,.int .i64 d2] 74))
 have CE:=AS (show ∀ (W':Go.World),W'.heap[p.b]?=some (.cells (nodeC c n p) 133 (0,0))->W'.cell? ⟨p.b,9,none⟩=some (.int .i64 n.id) from fun W' h=>(cw h 9))
 have CF:=AS (show ∀ (W':Go.World),W'.heap[p.b]?=some (.cells (nodeC c n p) 133 (0,0))->W'.cell? ⟨p.b,0,none⟩=some (.int .i64 c.nodes)/\W'.cell? ⟨p.b,1,none⟩=some (.int .i64 c.blocks)/\W'.cell? ⟨p.b,2,none⟩=some (.int .i64 c.tokens)/\W'.cell? ⟨p.b,3,none⟩=some (.int .i64 c.sets)/\W'.cell? ⟨p.b,4,none⟩=some (.int .i64 c.ways)/\W'.cell? ⟨p.b,5,none⟩=some (.int .i64 c.cap)/\W'.cell? ⟨p.b,6,none⟩=some (.int .i64 c.wait)/\W'.cell? ⟨p.b,7,none⟩=some (.int .i64 c.tries)/\W'.cell? ⟨p.b,8,none⟩=some (.int .i64 c.policy) from fun W' h=>⟨cw h 0,cw h 1,cw h 2,cw h 3,cw h 4,cw h 5,cw h 6,cw h 7,cw h 8⟩)
 show Calls Tryz.prog 85 #[.pointer (some ⟨p.b,0,none⟩),.agg #[.int .i64 ob,.bool ow,.int .i64 ov],.agg #[.int .i64 d0,.int .i64 d1,.int .i64 d2],.pointer (some ⟨p.q,0,none⟩)] w _
 simp only[cfgV,drwV] at TG
 generalize targets c n.id ⟨d0,d1,d2⟩=xs at *
 have HL:=AS hl
 clear hN hl
 generalize hpb:p.b=pb at *
 go_enter Tryz.func85,Tryz.ntmps85
 go_upto_region 1 with fail
 generalize (w.alloc (.cells #[.int .i64 ob,.bool ow,.int .i64 ov] 50)).alloc (.cells #[.int .i64 d0,.int .i64 d1,.int .i64 d2] 74)=W at B1 GB TG h1 DD ⊢
 generalize hg:w.heap.size=g at *
 have e9:=CE.out _ h1.out
 obtain⟨f0,f1,f2,f3,f4,f5,f6,f7,f8⟩:=CF.out _ h1.out
 have d0_:W.cell? ⟨g+1,0,none⟩=some (.int .i64 d0):=DD.out.1
 have d1_:W.cell? ⟨g+1,1,none⟩=some (.int .i64 d1):=DD.out.2.1
 have d2_:W.cell? ⟨g+1,2,none⟩=some (.int .i64 d2):=DD.out.2.2
 go_cut [3,5,19,20,21] (fun v3 v5 v19 v20 v21 wx=>v3=.pointer (some ⟨p.q,0,none⟩)/\v5=.pointer (some ⟨g,0,none⟩)/\(∃ A cp,v19=.slice A xs.length cp)/\v20=.int .i64 xs.length/\v21=.int .i64 0/\OwnE intE v19 xs wx/\(∀ x∈foot v19,W.heap.size≤x)/\Below W.heap.size W wx)
 case first =>
  go_region_with (go_at_call 113;refine TG.out.mono ?_;rintro e w3 ⟨v,rfl,hO,hf,hb⟩;obtain⟨A,cp,rfl,-⟩:=hO.row;have S3:=AS (And.intro hO (And.intro hf (show Below W.heap.size W w3 from⟨hb.os,hb.tape,hb.output,hb.size,hb.block⟩)));clear hO hf hb)
  all_goals
   go_wp2_with fail
   go_meet
   exact⟨rfl,rfl,⟨_,_,rfl⟩,rfl,rfl,S3.out.1,S3.out.2.1,S3.out.2.2⟩
 case rest =>
  obtain⟨rfl,rfl,⟨A,cp,rfl⟩,rfl,rfl,hO,hf,hb⟩:=hcut
  have hgW:g < W.heap.size:=blk_lt GB.out
  have hsz:=hb.size
  have hfl:=hO.lt
  have NW:=AS (NN.out.hold (w0:=wc) (B:=g :: foot (.slice A xs.length cp)) (hg ▸ B1.out.trans (hb.mono (by have:=B1.out.size;omega))) (by
   intro x hx
   rcases List.mem_cons.mp hx with rfl | hx
   ·rw[hg];omega
   ·have:=hf x hx;have:=hfl x hx;have:=B1.out.size;omega))
  have GC:=AS (blk_below GB.out hb)
  have OC:=AS hO
  have LN:=AS (show xs.length≤1000000000000 from by have:=HL.out;omega)
  clear hO hf hb hgW hsz hfl B1 GB TG h1 DD NN CF e9 f0 f1 f2 f3 f4 f5 f6 f7 f8 d0_ d1_ d2_
  go_wp2_with fail
  go_loopw [9,21] (fun v9 v21 wr=>∃ (i:Nat),v21=.int .i64 i/\i≤xs.length/\Aside0 (NH c n { o with letters:=o.letters ++ (xs.take i).map (askF n ⟨ob,ow,ov⟩)} p K w (g :: foot (.slice A xs.length cp)) wc wr)) (fun _ v21 _=>xs.length+1 - (intOf v21).toNat)
  case atStart=>exact⟨0,rfl,by omega,⟨by simpa using NW.out⟩⟩
  case round =>
   obtain⟨i,rfl,hi,R⟩:=hrel
   by_cases c1:i < xs.length
   ·have q1:(i:Int) < (xs.length:Int):=by omega
    have q0:(0:Int)≤(i:Int):=by omega
    have OR:=AS (OC.out.at_ (fun x hx=>R.out.at_ x (List.mem_cons_of_mem _ hx)))
    have GR:=AS ((R.out.at_ g (List.mem_cons_self)).trans GC.out)
    obtain⟨g',cap,hsl,hc63,hcap,hlt',-⟩:=own_some OR.out c1
    injection hsl with hsA _ hsc
    subst hsA hsc
    have e0:=int_cells OR.out c1
    generalize hx:xs.getD i 0=xi at e0
    have HX:=AS hx
    have e9:wr.cell? ⟨pb,9,none⟩=some (.int .i64 n.id):=by obtain⟨K1,-,h,-⟩:=R.out;have h11:=h.1.1;rw[hpb] at h11;exact CE.out _ h11
    have b0_:=cw GR.out 0 (v:=.int .i64 ob)
    have b1_:=cw GR.out 1 (v:=.bool ow)
    have SN:=AS ((R.out.below (Below.drew (Below.refl _ wr))).call (fun K1 h=>h.send (by have:=HL.out;simp;omega) ⟨2,n.id,xi,ob,0,0,ow,b0⟩))
    simp only[letV,b0] at SN
    clear hx hc63 hcap hlt'
    have hi12:(i:Int)≤1000000000000:=by have:=LN.out;omega
    have KEEP:=AS (show ∀ (o':S.Out) x,NH c n o' p K w (g :: foot (.slice (some ⟨g',0,none⟩) xs.length cp)) wc x->(x.cell? ⟨pb,9,none⟩=some (.int .i64 n.id)/\x.cell? ⟨g,0,none⟩=some (.int .i64 ob)/\x.cell? ⟨g,1,none⟩=some (.bool ow)) from fun o' x hx=>by
     have GX:=(hx.at_ g (List.mem_cons_self)).trans GC.out
     refine⟨?_,cw GX 0,cw GX 1⟩
     obtain⟨K1,-,h,-⟩:=hx;have h11:=h.1.1;rw[hpb] at h11;exact CE.out _ h11)
    go_upto_region 4 with fail
    go_region_held3 (fun x=>x.cell? ⟨pb,9,none⟩=some (.int .i64 n.id)/\x.cell? ⟨g,0,none⟩=some (.int .i64 ob)/\x.cell? ⟨g,1,none⟩=some (.bool ow)) (first | exact KEEP.out _ _ S3.out | exact KEEP.out _ _ R.out | exact KEEP.out _ _ (R.out.below (Below.drew (Below.refl _ _)))) ((first | (go_at_call 97;refine SN.out.mono ?_;rintro e w3 ⟨rfl,h3⟩;have S3:=AS h3;clear h3)))
    all_goals
     go_wp2
     go_roundw
     case rel =>
      refine⟨i+1,by go_num,by omega,⟨?_⟩⟩
      have h3:=S3.out
      rw[List.take_add_one,List.getElem?_eq_getElem c1,List.map_append,<- List.append_assoc]
      have hxi:xs[i]=xi:=by rw[<- HX.out,List.getD_eq_getElem?_getD,List.getElem?_eq_getElem c1];rfl
      simp only[Option.toList_some,List.map_cons,List.map_nil,hxi]
      exact h3
     case measure=>simp[intOf];omega
   ·have hin:i=xs.length:=by omega
    subst hin
    go_wp2
    go_end0
    rw[HA.out]
    exact NOP.ns rfl (by have:=R.out.ns;rwa [List.take_length] at this)
end Go.Proofs.YtiebppkhaiofeaaGreat.K
