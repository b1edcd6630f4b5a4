/- Part of the proof of TopStarver: what functions of the program do. -/
import Derived.Test.YtiebppkhaiofeaaGreatS15
import Derived.Test.YtiebppkhaiofeaaGreatS26
set_option maxHeartbeats 4000000
set_option maxRecDepth 100000
set_option linter.unusedVariables false
set_option linter.unusedSimpArgs false
namespace Go.Proofs.YtiebppkhaiofeaaGreat.K
open Go.RowKit Go.Proofs.YtiebppkhaiofeaaGreatW.PrintWords Go.Proofs.YtiebppkhaiofeaaGreat.S
attribute [local go_sem] World.cell?_alloc_some
open Go.ChangeMaps Go.MapKept
theorem getD_mem {α:Type} {xs:List α} {i:Nat} (d:α) (hi:i < xs.length):xs.getD i d∈xs:=by simp[List.getD,hi]
def CpAt (rs rs':List ARowR) (j b2 g2:Nat) (w wr:Go.World):Prop:=rs'.length=rs.length/\rs'.map (·.r)=rs.map (·.r)/\(∀ i,j≤i->rs'.getD i arowE.d=rs.getD i arowE.d)/\∀ i,i < j->QuOk (nw w) b2 g2 (rs'.getD i arowE.d).q (rs'.getD i arowE.d).r.queue wr
theorem arbCopy_any {a:Arb} {b:Nat} {F:Set_} {w:Go.World} (hA:ArbX a b F w) (hne:a.rows≠[]) (hql:∀ r∈a.rows,r.queue.length≤1000000):Calls Tryz.prog 77 #[.pointer (some ⟨b,0,none⟩)] w fun e w'=>∃ b',e=.returned (.pointer (some ⟨b',0,none⟩))/\ArbX a b' (nw w) w'/\Below w.heap.size w w':=by
 obtain⟨g,cap,rs,h⟩:=hA
 have hlen:=h.len
 have hn0:0 < rs.length:=by
  rw[hlen];exact List.length_pos_iff.2 hne
 have hn64:rs.length≤64:=by rw[hlen];exact h.2.2.2.2.2.2.2.2.1
 have HA:=AS h
 have RR:=AS (show RowE arowE w (some ⟨g,0,none⟩) rs from by obtain⟨A,c,e,hr,-⟩:=h.2.1.row;injection e with e1 e2 e3;rw[e1];exact hr)
 have HQL:=AS (show ∀ i,i < rs.length->(rs.getD i arowE.d).r.queue.length≤1000000 from fun i hi=>hql _ (by rw[<- h.2.2.1];exact List.mem_map_of_mem (getD_mem _ hi)))
 have CL:=AS (cloneR_any (c:=cap) (w:=w.drew) (A:=some ⟨g,0,none⟩) (xs:=rs) (fun i hi=>RR.out i hi) (by simp) (by show _ * 128≤_;omega))
 have c0:=cw h.1 0 (v:=.int .i64 a.nodes)
 have c1:=cw h.1 1 (v:=.slice (some ⟨g,0,none⟩) rs.length cap)
 have KEEP:=AS (show ∀ x,Below w.heap.size w x->(x.cell? ⟨b,0,none⟩=some (.int .i64 a.nodes)/\x.cell? ⟨b,1,none⟩=some (.slice (some ⟨g,0,none⟩) rs.length cap)) from fun x hx=>⟨cw (blk_below HA.out.1 hx) 0,cw (blk_below HA.out.1 hx) 1⟩)
 have hbl:=h.lt
 have HLN:=AS hlen
 clear h hne hql hlen
 go_enter Tryz.func77,Tryz.ntmps77
 go_upto_region 1 with fail
 go_cut [3] (fun v3 wx=>∃ b2 g2 c2,v3=.pointer (some ⟨b2,0,none⟩)/\wx.heap[b2]?=some (.cells #[.int .i64 a.nodes,.slice (some ⟨g2,0,none⟩) rs.length c2] 172 (0,0))/\OwnE arowE (.slice (some ⟨g2,0,none⟩) rs.length c2) rs wx/\w.heap.size≤b2/\w.heap.size≤g2/\b2≠g2/\Below w.heap.size w wx)
 case first =>
  go_region_held3 (fun x=>x.cell? ⟨b,0,none⟩=some (.int .i64 a.nodes)/\x.cell? ⟨b,1,none⟩=some (.slice (some ⟨g,0,none⟩) rs.length cap)) ((refine KEEP.out _ ?_;(repeat (with_reducible first | exact Below.refl _ _ | exact B3.out | apply below_alloc | apply Below.drew)))) ((first | (go_at_call 103;refine CL.out.mono ?_;rintro e w3 ⟨v,rfl,hO,hf,hb⟩;obtain⟨g2,c2,rfl,-⟩:=own_some hO hn0;have B3:=AS (show Below w.heap.size w w3 from(Below.drew (Below.refl _ _)).trans (hb.mono (Nat.le_refl _)));have O3:=AS (And.intro hO (hf g2 (by simp[foot_slice])));have hl3:=hO.lt g2 (by simp[foot_slice]);clear hO hf hb)))
  all_goals
   go_wp2_with fail
   go_meet
   have hs3:=B3.out.size
   exact⟨_,_,_,rfl,blk_new w3 _,O3.out.1.ks (KS.below (fun _=>False) (below_alloc (Below.refl _ _) _)) (fun _ _=>id),by omega,O3.out.2,by omega,below_alloc B3.out _⟩
 case rest =>
  obtain⟨b2,g2,c2,rfl,hB2,hO2,hb2,hg2,hbg,hbe⟩:=hcut
  have B2:=AS hB2
  have O2:=AS hO2
  have E2:=AS hbe
  have d1:=cw hB2 1 (v:=.slice (some ⟨g2,0,none⟩) rs.length c2)
  have hc2:c2≤9223372036854775807:=by obtain⟨A,c,e,-,-,hm,-⟩:=hO2.row;injection e with e1 e2 e3;omega
  have hcr:rs.length≤c2:=by obtain⟨A,c,e,-,hm,-,-⟩:=hO2.row;injection e with e1 e2 e3;omega
  clear hB2 hO2 hbe KEEP CL c0 c1
  go_wp2_with fail
  go_loopw [4,21] (fun v4 v21 wr=>∃ (j:Nat) (rs':List ARowR),v21=.int .i64 j/\j≤rs.length/\Aside0 (CpAt rs rs' j b2 g2 w wr/\OwnE arowE (.slice (some ⟨g2,0,none⟩) rs'.length c2) rs' wr/\wr.heap[b2]?=some (.cells #[.int .i64 a.nodes,.slice (some ⟨g2,0,none⟩) rs.length c2] 172 (0,0))/\Below w.heap.size w wr)) (fun _ v21 _=>65 - (intOf v21).toNat)
  case atStart=>exact⟨0,rs,rfl,by omega,⟨⟨rfl,rfl,fun _ _=>rfl,fun i hi=>absurd hi (by omega)⟩,O2.out,B2.out,E2.out⟩⟩
  case round =>
   obtain⟨j,rs',rfl,hj,R⟩:=hrel
   have hl':=R.out.1.1
   have d1:=cw R.out.2.2.1 1 (v:=.slice (some ⟨g2,0,none⟩) rs.length c2)
   by_cases hc:j < rs.length
   ·have q0:(0:Int)≤(j:Int):=by omega
    have q1:(j:Int) < (rs.length:Int):=by omega
    have hj':j < rs'.length:=by omega
    have hx':rs'.getD j arowE.d=rs.getD j arowE.d:=R.out.1.2.2.1 j (Nat.le_refl _)
    generalize hx:rs.getD j arowE.d=x at *
    obtain⟨⟨sq,⟨ab,an,aq⟩,on,en,kn,qu⟩,q,hh,hk⟩:=x
    obtain⟨QA,qc,hqe,hqr,hq1,hq2,hq3,hq4⟩:=HA.out.2.2.2.2.2.2.2.2.2 _ (hx ▸ getD_mem _ hc)
    simp only at hqe hqr hq1 hq2 hq3
    subst hqe
    have hql1:qu.length≤1000000:=by have:=HQL.out j hc;rw[hx] at this;exact this
    have OW:=AS (R.out.2.1.cell0 hj' hx')
    have e70:wr.cell? ⟨g2,j * 71+70,none⟩=some (.slice QA qu.length qc):=(own_cells OW.out hj' 70 (by decide)).trans (arowC_q _)
    have z70:wr.frozen? ⟨g2,j * 71+70,none⟩=false:=own_frz OW.out _
    have hrow:RowE intE wr.drew QA qu:=by
     have h1:=RowE.ks hqr (KS.below (fun _=>False) R.out.2.2.2) (fun _ _=>id)
     exact fun i hi=>h1 i hi
    have CI:=AS (cloneI_any (c:=qc) (w:=wr.drew) hrow hq3 (by show _ * 8≤_;omega))
    have FIN:=AS (show ∀ (v:Value) (w3:Go.World),OwnE intE v qu w3->(∀ x∈foot v,wr.heap.size≤x)->Below wr.heap.size wr w3->(v.oneCell'=true)->∃ rs2,CpAt rs rs2 (j+1) b2 g2 w (w3.setCell ⟨g2,j * 71+70,none⟩ v)/\OwnE arowE (.slice (some ⟨g2,0,none⟩) rs2.length c2) rs2 (w3.setCell ⟨g2,j * 71+70,none⟩ v)/\(w3.setCell ⟨g2,j * 71+70,none⟩ v).heap[b2]?=some (.cells #[.int .i64 a.nodes,.slice (some ⟨g2,0,none⟩) rs.length c2] 172 (0,0))/\Below w.heap.size w (w3.setCell ⟨g2,j * 71+70,none⟩ v) from by
     intro v w3 hO hf hb hoc
     have hlt1:=blk_lt R.out.2.2.1
     have hlt2:=R.out.2.1.lt g2 (by simp[foot_slice])
     have hk2:KS (fun x=>x=g2) wr (w3.setCell ⟨g2,j * 71+70,none⟩ v):=KS.set (F:=fun x=>x=g2) (KS.below _ hb) (.inl rfl) _ _
     refine⟨rs'.set j ⟨⟨sq,⟨ab,an,aq⟩,on,en,kn,qu⟩,v,hoc,hk⟩,⟨by simp[hl'],?_,fun i hi=>?_,fun i hi=>?_⟩,?_,hk2.at_ R.out.2.2.1 (by show ¬ b2=g2;exact hbg),(R.out.2.2.2.trans (hb.mono R.out.2.2.2.size)).setCell (p:=⟨_,_,none⟩) hg2 _⟩
     ·rw[<- R.out.1.2.1,List.map_set]
      refine List.ext_getElem? fun i=>?_
      rw[List.getElem?_set]
      by_cases e:j=i
      ·subst e
       rw[if_pos rfl,if_pos (by simpa using hj')]
       have hx2:=hx'
       rw[List.getD_eq_getElem?_getD,List.getElem?_eq_getElem hj',Option.getD_some] at hx2
       rw[List.getElem?_map,List.getElem?_eq_getElem hj',hx2]
       rfl
      ·rw[if_neg e]
     ·rw[getD_set,if_neg (by omega)]
      exact R.out.1.2.2.1 i (by omega)
     ·rw[getD_set]
      by_cases e:j=i
      ·rw[if_pos ⟨e,hj'⟩]
       exact quOk_fresh hO (fun x hx=>by have:=hf x hx;have:=R.out.2.2.2.size;exact⟨by show _≤x;omega,by omega,by omega⟩) _ _
      ·rw[if_neg (fun q=>e q.1)]
       exact(R.out.1.2.2.2 i (by omega)).keep hk2 (fun x hx hF=>⟨hF,fun h1 h2=>h2⟩)
     ·have h5:=(OW.out.ks (KS.below (fun _=>False) hb) (fun _ _=>id)).cell2 hj' 70 (by decide) ⟨⟨sq,⟨ab,an,aq⟩,on,en,kn,qu⟩,v,hoc,hk⟩ v (set_q ⟨⟨sq,⟨ab,an,aq⟩,on,en,kn,qu⟩,.slice QA qu.length qc,hh,hk⟩ v hoc qu)
      rw[List.length_set]
      exact h5)
    clear hqr hq1 hq3 hq4 hrow hx hx'
    go_upto_region 5 with fail
    go_region_with (go_at_call 104;refine CI.out.mono ?_;rintro e w3 ⟨v,rfl,hO,hf,hb⟩;obtain⟨A3,c3,rfl,-⟩:=hO.row;have hb':=(show Below wr.heap.size wr w3 from(Below.drew (Below.refl _ _)).trans (hb.mono (Nat.le_refl _)));have F3:=AS (FIN.out _ w3 hO hf hb' rfl);have d3:w3.cell? ⟨b2,1,none⟩=some (.slice (some ⟨g2,0,none⟩) rs.length c2):=cw (blk_below R.out.2.2.1 hb') 1;have O3:=AS (OW.out.ks (KS.below (fun _=>False) hb') (fun _ _=>id));have e3:w3.cell? ⟨g2,j * 71+70,none⟩=some (.slice QA qu.length qc):=(own_cells O3.out hj' 70 (by decide)).trans (arowC_q _);have z3:w3.frozen? ⟨g2,j * 71+70,none⟩=false:=own_frz O3.out _;clear hO hf hb hb')
    all_goals
     go_wp2
     go_roundw
     case rel =>
      obtain⟨rs2,k1,k2,k3,k4⟩:=F3.out
      exact⟨j+1,rs2,by go_num,by omega,⟨k1,k2,k3,k4⟩⟩
     case measure=>simp[intOf];omega
   ·have hjn:j=rs.length:=by omega
    subst hjn
    go_wp2
    go_ret
    refine⟨b2,rfl,⟨g2,c2,rs',?_,R.out.2.1,R.out.1.2.1.trans HA.out.2.2.1,hbg,hb2,hg2,HA.out.2.2.2.2.2.2.1,HA.out.2.2.2.2.2.2.2.1,by rw[<- HLN.out];exact hn64,fun p hp=>?_⟩,R.out.2.2.2⟩
    ·rw[hl'];exact R.out.2.2.1
    ·obtain⟨i,hi,rfl⟩:=List.getElem_of_mem hp
     have:=R.out.1.2.2.2 i (by omega)
     simpa [List.getD,hi] using this
def HomeAt (c:Cfg) (h:S.Home) (b:Nat) (F:Set_) (w:Go.World):Prop:=∃ bm bq K,HomeK c h b bm bq K w/\∀ x,x < w.heap.size->K x≤2->F x
open Classical in
theorem home_mk {c:Cfg} {h:S.Home} {bm bq:Nat} {F1 F2 G:Set_} {w2:Go.World} (hM:MemAt h.mem bm F1 w2) (hQ:ArbX h.queue bq F2 w2) (hd:∀ x,F1 x->¬ F2 x) (h1:∀ x,F1 x->G x) (h2:∀ x,F2 x->G x) (hG:G w2.heap.size):HomeAt c h w2.heap.size G (w2.alloc (.cells (homeC c bm bq) 124)):=by
 have hb:=below_alloc (Below.refl w2.heap.size w2) (.cells (homeC c bm bq) 124)
 refine⟨bm,bq,fun x=>if x=w2.heap.size then 0 else if F1 x then 1 else if F2 x then 2 else 7,⟨blk_new _ _,if_pos rfl,hM.keep (KS.below (fun _=>False) hb) (fun x hx hF=>⟨?_,id⟩),hQ.keep (KS.below (fun _=>False) hb) (fun x hx hF=>⟨?_,id⟩)⟩,fun x hx hK=>?_⟩
 ·show(if x=w2.heap.size then 0 else if F1 x then 1 else if F2 x then 2 else 7)=1
  rw[if_neg (by omega),if_pos hF]
 ·show(if x=w2.heap.size then 0 else if F1 x then 1 else if F2 x then 2 else 7)=2
  rw[if_neg (by omega),if_neg (fun q=>hd x q hF),if_pos hF]
 ·by_cases q0:x=w2.heap.size
  ·rw[q0];exact hG
  ·by_cases q1:F1 x
   ·exact h1 x q1
   ·by_cases q2:F2 x
    ·exact h2 x q2
    ·simp only[if_neg q0,if_neg q1,if_neg q2] at hK
     exact absurd hK (by decide)
theorem HomeAt.lt {c:Cfg} {h:S.Home} {b:Nat} {F:Set_} {w:Go.World} (hH:HomeAt c h b F w):b < w.heap.size:=by obtain⟨bm,bq,K,hK,-⟩:=hH;exact blk_lt hK.1
theorem HomeAt.keep {c:Cfg} {h:S.Home} {b:Nat} {F F' G:Set_} {w w':Go.World} (hH:HomeAt c h b F w) (hk:KS G w w') (hs:∀ x,x < w.heap.size->F x->F' x/\¬ G x):HomeAt c h b F' w':=by
 obtain⟨bm,bq,K,hK,hF⟩:=hH
 have hsz:=hk.size
 refine⟨bm,bq,rec_ K w 7,homeStays c h b bm bq K _ G w w' hK hk (fun x hx h2=>⟨rec_old hx,(hs x hx (hF x hx h2)).2⟩),fun x hx h2=>?_⟩
 by_cases hl:x < w.heap.size
 ·rw[rec_old hl] at h2;exact(hs x hl (hF x hl h2)).1
 ·rw[rec_new (by omega)] at h2;omega
theorem homeAll_any {c:Cfg} {h:S.Home} {b:Nat} {F:Set_} {w:Go.World} (hH:HomeAt c h b F w):Calls Tryz.prog 36 #[.pointer (some ⟨b,0,none⟩)] w (NewRow bunE h.mem w):=by
 obtain⟨bm,bq,K,hK,-⟩:=hH
 have M:=AS (memAll_any hK.2.2.1)
 have c9:=cw hK.1 9 (v:=.pointer (some ⟨bm,0,none⟩))
 clear hK
 go_enter Tryz.func36,Tryz.ntmps36
 go_wp2_with fail
 refine M.out.mono ?_
 rintro e w2 ⟨v,rfl,hO,hf,hb⟩
 obtain⟨A,cp,rfl,-⟩:=hO.row
 have X:=AS (And.intro hO (And.intro hf hb))
 clear hO hf hb
 go_wp2
 go_ret
 exact⟨_,rfl,X.out.1,X.out.2.1,X.out.2.2⟩
theorem homeCopy_any {c:Cfg} {h:S.Home} {b:Nat} {F:Set_} {w:Go.World} (hH:HomeAt c h b F w) (hne:h.queue.rows≠[]) (hql:∀ r∈h.queue.rows,r.queue.length≤1000000):Calls Tryz.prog 51 #[.pointer (some ⟨b,0,none⟩)] w fun e w'=>∃ b',e=.returned (.pointer (some ⟨b',0,none⟩))/\HomeAt c h b' (nw w) w'/\Below w.heap.size w w':=by
 obtain⟨bm,bq,K,hK,-⟩:=hH
 have MA:=AS (show ∀ W',Below w.heap.size w W'->_ from fun W' hb=>memCopy_any (hK.2.2.1.keep (KS.below (fun _=>False) hb) (fun x _ hF=>⟨hF,id⟩)))
 have QA:=AS (show ∀ W',Below w.heap.size w W'->_ from fun W' hb=>arbCopy_any (hK.2.2.2.keep (KS.below (fun _=>False) hb) (fun x _ hF=>⟨hF,id⟩)) hne hql)
 have KEEP:=AS (show ∀ x,Below w.heap.size w x->(x.cell? ⟨b,0,none⟩=some (.int .i64 c.nodes)/\x.cell? ⟨b,1,none⟩=some (.int .i64 c.blocks)/\x.cell? ⟨b,2,none⟩=some (.int .i64 c.tokens)/\x.cell? ⟨b,3,none⟩=some (.int .i64 c.sets)/\x.cell? ⟨b,4,none⟩=some (.int .i64 c.ways)/\x.cell? ⟨b,5,none⟩=some (.int .i64 c.cap)/\x.cell? ⟨b,6,none⟩=some (.int .i64 c.wait)/\x.cell? ⟨b,7,none⟩=some (.int .i64 c.tries)/\x.cell? ⟨b,8,none⟩=some (.int .i64 c.policy)/\x.cell? ⟨b,9,none⟩=some (.pointer (some ⟨bm,0,none⟩))/\x.cell? ⟨b,10,none⟩=some (.pointer (some ⟨bq,0,none⟩))) from fun x hx=>by have h11:=blk_below hK.1 hx;exact⟨cw h11 0,cw h11 1,cw h11 2,cw h11 3,cw h11 4,cw h11 5,cw h11 6,cw h11 7,cw h11 8,cw h11 9,cw h11 10⟩)
 obtain⟨e0_,e1_,e2_,e3_,e4_,e5_,e6_,e7_,e8_,e9_,e10_⟩:=KEEP.out w (Below.refl _ _)
 clear hK hne hql
 go_enter Tryz.func51,Tryz.ntmps51
 go_upto_region 1 with fail
 go_region_held3 (fun x=>x.cell? ⟨b,0,none⟩=some (.int .i64 c.nodes)/\x.cell? ⟨b,1,none⟩=some (.int .i64 c.blocks)/\x.cell? ⟨b,2,none⟩=some (.int .i64 c.tokens)/\x.cell? ⟨b,3,none⟩=some (.int .i64 c.sets)/\x.cell? ⟨b,4,none⟩=some (.int .i64 c.ways)/\x.cell? ⟨b,5,none⟩=some (.int .i64 c.cap)/\x.cell? ⟨b,6,none⟩=some (.int .i64 c.wait)/\x.cell? ⟨b,7,none⟩=some (.int .i64 c.tries)/\x.cell? ⟨b,8,none⟩=some (.int .i64 c.policy)/\x.cell? ⟨b,9,none⟩=some (.pointer (some ⟨bm,0,none⟩))/\x.cell? ⟨b,10,none⟩=some (.pointer (some ⟨bq,0,none⟩))) ((refine KEEP.out _ ?_;(repeat (with_reducible first | exact Below.refl _ _ | exact B2.out | exact B1.out | apply below_alloc | apply Below.drew)))) ((first | (go_at_call 76;refine(MA.out w.drew (Below.drew (Below.refl _ _))).mono ?_;rintro e w1 ⟨m1,rfl,hM,hb⟩;have B1:=AS (show Below w.heap.size w w1 from(Below.drew (Below.refl _ _)).trans (hb.mono (Nat.le_refl _)));have M1:=AS hM;clear hM hb) | (go_at_call 77;refine(QA.out _ B1.out).mono ?_;rintro e w2 ⟨q1,rfl,hQ,hb⟩;have hs1:=B1.out.size;have hs2:=hb.size;have B2:=AS (B1.out.trans (hb.mono hs1));have FN:=AS (home_mk (c:=c) (h:=h) (G:=nw w) (F1:=fun x=>w.heap.size≤x/\x < w1.heap.size) (F2:=nw w1) (M1.out.keep (KS.below (fun _=>False) hb) (fun x hx hF=>⟨⟨hF,hx⟩,id⟩)) hQ (fun x h1 h2=>by have h2':w1.heap.size≤x:=h2;omega) (fun x h1=>h1.1) (fun x h2=>by have h2':w1.heap.size≤x:=h2;show _≤x;omega) (by show _≤w2.heap.size;omega));clear hQ hb hs1 hs2) | (go_at_call 77;refine(QA.out w.drew (Below.drew (Below.refl _ _))).mono ?_;rintro e w1 ⟨q1,rfl,hQ,hb⟩;have B1:=AS (show Below w.heap.size w w1 from(Below.drew (Below.refl _ _)).trans (hb.mono (Nat.le_refl _)));have Q1:=AS hQ;clear hQ hb) | (go_at_call 76;refine(MA.out _ B1.out).mono ?_;rintro e w2 ⟨m1,rfl,hM,hb⟩;have hs1:=B1.out.size;have hs2:=hb.size;have B2:=AS (B1.out.trans (hb.mono hs1));have FN:=AS (home_mk (c:=c) (h:=h) (G:=nw w) (F1:=nw w1) (F2:=fun x=>w.heap.size≤x/\x < w1.heap.size) hM (Q1.out.keep (KS.below (fun _=>False) hb) (fun x hx hF=>⟨⟨hF,hx⟩,id⟩)) (fun x h1 h2=>by have h1':w1.heap.size≤x:=h1;omega) (fun x h1=>by have h1':w1.heap.size≤x:=h1;show _≤x;omega) (fun x h2=>h2.1) (by show _≤w2.heap.size;omega));clear hM hb hs1 hs2)))
 all_goals
  go_wp2
  go_ret
  exact⟨_,rfl,FN.out,below_alloc B2.out _⟩
theorem homeNew_any (c:Cfg) (hc:c.check=0) (w:Go.World):Calls Tryz.prog 23 #[cfgV c] w fun e w'=>∃ b',e=.returned (.tuple #[.pointer (some ⟨b',0,none⟩),.int .i64 0])/\HomeAt c (Home.new c) b' (nw w) w'/\Below w.heap.size w w':=by
 have CK:=AS (show ∀ W',Calls Tryz.prog 21 _ W' _ from fun W'=>config_any c W')
 rw[hc] at CK
 have BN:=AS (blk_new w (.cells #[.int .i64 c.nodes,.int .i64 c.blocks,.int .i64 c.tokens,.int .i64 c.sets,.int .i64 c.ways,.int .i64 c.cap,.int .i64 c.wait,.int .i64 c.tries,.int .i64 c.policy] 23))
 have B0:=AS (below_alloc (Below.refl w.heap.size w) (.cells #[.int .i64 c.nodes,.int .i64 c.blocks,.int .i64 c.tokens,.int .i64 c.sets,.int .i64 c.ways,.int .i64 c.cap,.int .i64 c.wait,.int .i64 c.tries,.int .i64 c.policy] 23))
 have MA':=AS (memNew_any c.blocks c.tokens)
 have QA':=AS (arbNew_any c.nodes c.blocks)
 have HN:=AS (show Home.new c=⟨List.replicate (clamp c.blocks 0 64).toNat (full c.tokens 0),Arb.new c.nodes c.blocks⟩ from rfl)
 generalize hh:Home.new c=h at *
 obtain⟨hm,hq⟩:=h
 have e:=HN.out
 injection e with e1 e2
 rw[<- e1] at MA'
 rw[<- e2] at QA'
 clear e1 e2 HN hh
 simp only[cfgV] at CK ⊢
 obtain⟨e0_,e1_,e2_,e3_,e4_,e5_,e6_,e7_,e8_⟩:=(show(w.alloc (.cells #[.int .i64 c.nodes,.int .i64 c.blocks,.int .i64 c.tokens,.int .i64 c.sets,.int .i64 c.ways,.int .i64 c.cap,.int .i64 c.wait,.int .i64 c.tries,.int .i64 c.policy] 23)).cell? ⟨w.heap.size,0,none⟩=some (.int .i64 c.nodes)/\(w.alloc (.cells #[.int .i64 c.nodes,.int .i64 c.blocks,.int .i64 c.tokens,.int .i64 c.sets,.int .i64 c.ways,.int .i64 c.cap,.int .i64 c.wait,.int .i64 c.tries,.int .i64 c.policy] 23)).cell? ⟨w.heap.size,1,none⟩=some (.int .i64 c.blocks)/\(w.alloc (.cells #[.int .i64 c.nodes,.int .i64 c.blocks,.int .i64 c.tokens,.int .i64 c.sets,.int .i64 c.ways,.int .i64 c.cap,.int .i64 c.wait,.int .i64 c.tries,.int .i64 c.policy] 23)).cell? ⟨w.heap.size,2,none⟩=some (.int .i64 c.tokens)/\(w.alloc (.cells #[.int .i64 c.nodes,.int .i64 c.blocks,.int .i64 c.tokens,.int .i64 c.sets,.int .i64 c.ways,.int .i64 c.cap,.int .i64 c.wait,.int .i64 c.tries,.int .i64 c.policy] 23)).cell? ⟨w.heap.size,3,none⟩=some (.int .i64 c.sets)/\(w.alloc (.cells #[.int .i64 c.nodes,.int .i64 c.blocks,.int .i64 c.tokens,.int .i64 c.sets,.int .i64 c.ways,.int .i64 c.cap,.int .i64 c.wait,.int .i64 c.tries,.int .i64 c.policy] 23)).cell? ⟨w.heap.size,4,none⟩=some (.int .i64 c.ways)/\(w.alloc (.cells #[.int .i64 c.nodes,.int .i64 c.blocks,.int .i64 c.tokens,.int .i64 c.sets,.int .i64 c.ways,.int .i64 c.cap,.int .i64 c.wait,.int .i64 c.tries,.int .i64 c.policy] 23)).cell? ⟨w.heap.size,5,none⟩=some (.int .i64 c.cap)/\(w.alloc (.cells #[.int .i64 c.nodes,.int .i64 c.blocks,.int .i64 c.tokens,.int .i64 c.sets,.int .i64 c.ways,.int .i64 c.cap,.int .i64 c.wait,.int .i64 c.tries,.int .i64 c.policy] 23)).cell? ⟨w.heap.size,6,none⟩=some (.int .i64 c.wait)/\(w.alloc (.cells #[.int .i64 c.nodes,.int .i64 c.blocks,.int .i64 c.tokens,.int .i64 c.sets,.int .i64 c.ways,.int .i64 c.cap,.int .i64 c.wait,.int .i64 c.tries,.int .i64 c.policy] 23)).cell? ⟨w.heap.size,7,none⟩=some (.int .i64 c.tries)/\(w.alloc (.cells #[.int .i64 c.nodes,.int .i64 c.blocks,.int .i64 c.tokens,.int .i64 c.sets,.int .i64 c.ways,.int .i64 c.cap,.int .i64 c.wait,.int .i64 c.tries,.int .i64 c.policy] 23)).cell? ⟨w.heap.size,8,none⟩=some (.int .i64 c.policy) from⟨cw BN.out 0,cw BN.out 1,cw BN.out 2,cw BN.out 3,cw BN.out 4,cw BN.out 5,cw BN.out 6,cw BN.out 7,cw BN.out 8⟩)
 go_enter Tryz.func23,Tryz.ntmps23
 go_wp2_with fail
 generalize w.alloc (.cells #[.int .i64 c.nodes,.int .i64 c.blocks,.int .i64 c.tokens,.int .i64 c.sets,.int .i64 c.ways,.int .i64 c.cap,.int .i64 c.wait,.int .i64 c.tries,.int .i64 c.policy] 23)=W at BN B0 e0_ e1_ e2_ e3_ e4_ e5_ e6_ e7_ e8_ ⊢
 refine(CK.out W).mono ?_
 rintro e wB ⟨rfl,hb2⟩
 have hs0:=B0.out.size
 have BN2:=AS (blk_below BN.out hb2)
 have B2':=AS (B0.out.trans (hb2.mono hs0))
 clear hb2 CK e0_ e1_ e2_ e3_ e4_ e5_ e6_ e7_ e8_ BN B0 hs0
 have MA:=AS (show ∀ W',Below wB.heap.size wB W'->_ from fun W' _=>MA'.out W')
 have QA:=AS (show ∀ W',Below wB.heap.size wB W'->_ from fun W' _=>QA'.out W')
 have KEEP:=AS (show ∀ x,Below wB.heap.size wB x->(x.cell? ⟨w.heap.size,0,none⟩=some (.int .i64 c.nodes)/\x.cell? ⟨w.heap.size,1,none⟩=some (.int .i64 c.blocks)/\x.cell? ⟨w.heap.size,2,none⟩=some (.int .i64 c.tokens)/\x.cell? ⟨w.heap.size,3,none⟩=some (.int .i64 c.sets)/\x.cell? ⟨w.heap.size,4,none⟩=some (.int .i64 c.ways)/\x.cell? ⟨w.heap.size,5,none⟩=some (.int .i64 c.cap)/\x.cell? ⟨w.heap.size,6,none⟩=some (.int .i64 c.wait)/\x.cell? ⟨w.heap.size,7,none⟩=some (.int .i64 c.tries)/\x.cell? ⟨w.heap.size,8,none⟩=some (.int .i64 c.policy)) from fun x hx=>by have h11:=blk_below BN2.out hx;exact⟨cw h11 0,cw h11 1,cw h11 2,cw h11 3,cw h11 4,cw h11 5,cw h11 6,cw h11 7,cw h11 8⟩)
 obtain⟨e0_,e1_,e2_,e3_,e4_,e5_,e6_,e7_,e8_⟩:=KEEP.out wB (Below.refl _ _)
 have hsz2:=B2'.out.size
 clear MA' QA'
 go_upto_region 3 with fail
 go_region_held3 (fun x=>x.cell? ⟨w.heap.size,0,none⟩=some (.int .i64 c.nodes)/\x.cell? ⟨w.heap.size,1,none⟩=some (.int .i64 c.blocks)/\x.cell? ⟨w.heap.size,2,none⟩=some (.int .i64 c.tokens)/\x.cell? ⟨w.heap.size,3,none⟩=some (.int .i64 c.sets)/\x.cell? ⟨w.heap.size,4,none⟩=some (.int .i64 c.ways)/\x.cell? ⟨w.heap.size,5,none⟩=some (.int .i64 c.cap)/\x.cell? ⟨w.heap.size,6,none⟩=some (.int .i64 c.wait)/\x.cell? ⟨w.heap.size,7,none⟩=some (.int .i64 c.tries)/\x.cell? ⟨w.heap.size,8,none⟩=some (.int .i64 c.policy)) ((refine KEEP.out _ ?_;(repeat (with_reducible first | exact Below.refl _ _ | exact B2.out | exact B1.out | apply below_alloc | apply Below.drew)))) ((first | (go_at_call 46;refine(MA.out wB.drew (Below.drew (Below.refl _ _))).mono ?_;rintro e w1 ⟨m1,rfl,hM,hb⟩;have B1:=AS (show Below wB.heap.size wB w1 from(Below.drew (Below.refl _ _)).trans (hb.mono (Nat.le_refl _)));have M1:=AS hM;clear hM hb) | (go_at_call 47;refine(QA.out _ B1.out).mono ?_;rintro e w2 ⟨q1,rfl,hQ,hb⟩;have hs1:=B1.out.size;have hs2:=hb.size;have B2:=AS (B1.out.trans (hb.mono hs1));have FN:=AS (home_mk (c:=c) (h:=⟨hm,hq⟩) (G:=nw wB) (F1:=fun x=>wB.heap.size≤x/\x < w1.heap.size) (F2:=nw w1) (M1.out.keep (KS.below (fun _=>False) hb) (fun x hx hF=>⟨⟨hF,hx⟩,id⟩)) hQ (fun x h1 h2=>by have h2':w1.heap.size≤x:=h2;omega) (fun x h1=>h1.1) (fun x h2=>by have h2':w1.heap.size≤x:=h2;show _≤x;omega) (by show _≤w2.heap.size;omega));clear hQ hb hs1 hs2) | (go_at_call 47;refine(QA.out wB.drew (Below.drew (Below.refl _ _))).mono ?_;rintro e w1 ⟨q1,rfl,hQ,hb⟩;have B1:=AS (show Below wB.heap.size wB w1 from(Below.drew (Below.refl _ _)).trans (hb.mono (Nat.le_refl _)));have Q1:=AS hQ;clear hQ hb) | (go_at_call 46;refine(MA.out _ B1.out).mono ?_;rintro e w2 ⟨m1,rfl,hM,hb⟩;have hs1:=B1.out.size;have hs2:=hb.size;have B2:=AS (B1.out.trans (hb.mono hs1));have FN:=AS (home_mk (c:=c) (h:=⟨hm,hq⟩) (G:=nw wB) (F1:=nw w1) (F2:=fun x=>wB.heap.size≤x/\x < w1.heap.size) hM (Q1.out.keep (KS.below (fun _=>False) hb) (fun x hx hF=>⟨⟨hF,hx⟩,id⟩)) (fun x h1 h2=>by have h1':w1.heap.size≤x:=h1;omega) (fun x h1=>by have h1':w1.heap.size≤x:=h1;show _≤x;omega) (fun x h2=>h2.1) (by show _≤w2.heap.size;omega));clear hM hb hs1 hs2)))
 all_goals
  go_wp2
  refine bodyPost_ret (v:=.tuple #[.pointer (some ⟨w2.heap.size,0,none⟩),.int .i64 0]) (by simp[results,Tryz.results23,go_sem]) rfl ?_
  exact⟨_,rfl,FN.out.keep (KS.refl (fun _=>False) _) (fun x _ hx=>⟨by have hx':wB.heap.size≤x:=hx;show w.heap.size≤x;omega,id⟩),B2'.out.trans ((below_alloc B2.out _).mono hsz2)⟩
end Go.Proofs.YtiebppkhaiofeaaGreat.K
