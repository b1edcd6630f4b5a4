/- Part of the proof of TopStarver: what functions of the program do. -/
import Derived.Test.YtiebppkhaiofeaaGreatS37
set_option maxHeartbeats 4000000
set_option maxRecDepth 100000
set_option linter.unusedVariables false
set_option linter.unusedSimpArgs false
namespace Go.Proofs.YtiebppkhaiofeaaGreat.K
open Go.RowKit Go.Proofs.YtiebppkhaiofeaaGreatW.PrintWords Go.Proofs.YtiebppkhaiofeaaGreat.S
attribute [local go_sem] World.cell?_alloc_some
open Go.ChangeMaps Go.MapKept
theorem worldNew_any (c:Cfg) (hc:c.check=0) (w:Go.World):Calls Tryz.prog 8 #[cfgV c] w fun e w'=>∃ b',e=.returned (.tuple #[.pointer (some ⟨b',0,none⟩),.int .i64 0])/\WldAt c (S.World.new c) b' (nw w) w'/\Below w.heap.size w w':=by
 obtain⟨-,-,-,-,hcap1,hcap2,-,-,-,-,-,-,hn1,hn2,-⟩:=check_ok hc
 have hroom:roomOf c.cap=c.cap:=by unfold roomOf;omega
 have CK:=AS (show ∀ W',Calls Tryz.prog 21 _ W' _ from fun W'=>config_any c W')
 rw[hc] at CK
 have HC:=AS (fun X=>homeNew_any c hc X)
 have NN:=AS (fun(i:Nat) (hi:(i:Int) < c.nodes) X=>nodeNew_any c hc i (by omega) hi X)
 have NC:=AS (fun X=>netNew_any c.cap X)
 rw[hroom] at NC
 have BN:=AS (blk_new w (.cells #[.int .i64 c.nodes,.int .i64 c.blocks,.int .i64 c.tokens,.int .i64 c.sets,.int .i64 c.ways,.int .i64 c.cap,.int .i64 c.wait,.int .i64 c.tries,.int .i64 c.policy] 23))
 have B0:=AS (below_alloc (Below.refl w.heap.size w) (.cells #[.int .i64 c.nodes,.int .i64 c.blocks,.int .i64 c.tokens,.int .i64 c.sets,.int .i64 c.ways,.int .i64 c.cap,.int .i64 c.wait,.int .i64 c.tries,.int .i64 c.policy] 23))
 have SZ:=AS (sz_alloc w (.cells #[.int .i64 c.nodes,.int .i64 c.blocks,.int .i64 c.tokens,.int .i64 c.sets,.int .i64 c.ways,.int .i64 c.cap,.int .i64 c.wait,.int .i64 c.tries,.int .i64 c.policy] 23))
 clear hroom hcap1 hcap2 hc
 simp only[cfgV] at CK HC NN ⊢
 obtain⟨e0_,e1_,e2_,e3_,e4_,e5_,e6_,e7_,e8_⟩:=(show(w.alloc (.cells #[.int .i64 c.nodes,.int .i64 c.blocks,.int .i64 c.tokens,.int .i64 c.sets,.int .i64 c.ways,.int .i64 c.cap,.int .i64 c.wait,.int .i64 c.tries,.int .i64 c.policy] 23)).cell? ⟨w.heap.size,0,none⟩=some (.int .i64 c.nodes)/\(w.alloc (.cells #[.int .i64 c.nodes,.int .i64 c.blocks,.int .i64 c.tokens,.int .i64 c.sets,.int .i64 c.ways,.int .i64 c.cap,.int .i64 c.wait,.int .i64 c.tries,.int .i64 c.policy] 23)).cell? ⟨w.heap.size,1,none⟩=some (.int .i64 c.blocks)/\(w.alloc (.cells #[.int .i64 c.nodes,.int .i64 c.blocks,.int .i64 c.tokens,.int .i64 c.sets,.int .i64 c.ways,.int .i64 c.cap,.int .i64 c.wait,.int .i64 c.tries,.int .i64 c.policy] 23)).cell? ⟨w.heap.size,2,none⟩=some (.int .i64 c.tokens)/\(w.alloc (.cells #[.int .i64 c.nodes,.int .i64 c.blocks,.int .i64 c.tokens,.int .i64 c.sets,.int .i64 c.ways,.int .i64 c.cap,.int .i64 c.wait,.int .i64 c.tries,.int .i64 c.policy] 23)).cell? ⟨w.heap.size,3,none⟩=some (.int .i64 c.sets)/\(w.alloc (.cells #[.int .i64 c.nodes,.int .i64 c.blocks,.int .i64 c.tokens,.int .i64 c.sets,.int .i64 c.ways,.int .i64 c.cap,.int .i64 c.wait,.int .i64 c.tries,.int .i64 c.policy] 23)).cell? ⟨w.heap.size,4,none⟩=some (.int .i64 c.ways)/\(w.alloc (.cells #[.int .i64 c.nodes,.int .i64 c.blocks,.int .i64 c.tokens,.int .i64 c.sets,.int .i64 c.ways,.int .i64 c.cap,.int .i64 c.wait,.int .i64 c.tries,.int .i64 c.policy] 23)).cell? ⟨w.heap.size,5,none⟩=some (.int .i64 c.cap)/\(w.alloc (.cells #[.int .i64 c.nodes,.int .i64 c.blocks,.int .i64 c.tokens,.int .i64 c.sets,.int .i64 c.ways,.int .i64 c.cap,.int .i64 c.wait,.int .i64 c.tries,.int .i64 c.policy] 23)).cell? ⟨w.heap.size,6,none⟩=some (.int .i64 c.wait)/\(w.alloc (.cells #[.int .i64 c.nodes,.int .i64 c.blocks,.int .i64 c.tokens,.int .i64 c.sets,.int .i64 c.ways,.int .i64 c.cap,.int .i64 c.wait,.int .i64 c.tries,.int .i64 c.policy] 23)).cell? ⟨w.heap.size,7,none⟩=some (.int .i64 c.tries)/\(w.alloc (.cells #[.int .i64 c.nodes,.int .i64 c.blocks,.int .i64 c.tokens,.int .i64 c.sets,.int .i64 c.ways,.int .i64 c.cap,.int .i64 c.wait,.int .i64 c.tries,.int .i64 c.policy] 23)).cell? ⟨w.heap.size,8,none⟩=some (.int .i64 c.policy) from⟨cw BN.out 0,cw BN.out 1,cw BN.out 2,cw BN.out 3,cw BN.out 4,cw BN.out 5,cw BN.out 6,cw BN.out 7,cw BN.out 8⟩)
 go_enter Tryz.func8,Tryz.ntmps8
 go_wp2_with fail
 generalize w.alloc (.cells #[.int .i64 c.nodes,.int .i64 c.blocks,.int .i64 c.tokens,.int .i64 c.sets,.int .i64 c.ways,.int .i64 c.cap,.int .i64 c.wait,.int .i64 c.tries,.int .i64 c.policy] 23)=W at BN B0 SZ e0_ e1_ e2_ e3_ e4_ e5_ e6_ e7_ e8_ ⊢
 refine(CK.out W).mono ?_
 rintro e wB ⟨rfl,hb2⟩
 have hs0:=B0.out.size
 have BN2:=AS (blk_below BN.out hb2)
 have B2':=AS (B0.out.trans (hb2.mono hs0))
 clear hb2 CK e0_ e1_ e2_ e3_ e4_ e5_ e6_ e7_ e8_ BN B0 hs0
 have KEEP:=AS (show ∀ x,Below wB.heap.size wB x->(x.cell? ⟨w.heap.size,0,none⟩=some (.int .i64 c.nodes)/\x.cell? ⟨w.heap.size,1,none⟩=some (.int .i64 c.blocks)/\x.cell? ⟨w.heap.size,2,none⟩=some (.int .i64 c.tokens)/\x.cell? ⟨w.heap.size,3,none⟩=some (.int .i64 c.sets)/\x.cell? ⟨w.heap.size,4,none⟩=some (.int .i64 c.ways)/\x.cell? ⟨w.heap.size,5,none⟩=some (.int .i64 c.cap)/\x.cell? ⟨w.heap.size,6,none⟩=some (.int .i64 c.wait)/\x.cell? ⟨w.heap.size,7,none⟩=some (.int .i64 c.tries)/\x.cell? ⟨w.heap.size,8,none⟩=some (.int .i64 c.policy)) from fun x hx=>by have h11:=blk_below BN2.out hx;exact⟨cw h11 0,cw h11 1,cw h11 2,cw h11 3,cw h11 4,cw h11 5,cw h11 6,cw h11 7,cw h11 8⟩)
 obtain⟨e0_,e1_,e2_,e3_,e4_,e5_,e6_,e7_,e8_⟩:=KEEP.out wB (Below.refl _ _)
 go_upto_region 4 with fail
 go_cut [5] (fun v5 wx=>∃ w1 y1,v5=.pointer (some ⟨w1.heap.size,0,none⟩)/\wx=w1.alloc (.cells #[.int .i64 c.nodes,.int .i64 c.blocks,.int .i64 c.tokens,.int .i64 c.sets,.int .i64 c.ways,.int .i64 c.cap,.int .i64 c.wait,.int .i64 c.tries,.int .i64 c.policy,.int .i64 0,.int .i64 0,.slice none 0 0,.pointer none,.pointer (some ⟨y1,0,none⟩)] 91)/\Below wB.heap.size wB w1/\NetAt c.cap [] y1 (fun x=>wB.heap.size≤x/\x < w1.heap.size) w1)
 case first =>
  go_region_held3 (fun x=>x.cell? ⟨w.heap.size,0,none⟩=some (.int .i64 c.nodes)/\x.cell? ⟨w.heap.size,1,none⟩=some (.int .i64 c.blocks)/\x.cell? ⟨w.heap.size,2,none⟩=some (.int .i64 c.tokens)/\x.cell? ⟨w.heap.size,3,none⟩=some (.int .i64 c.sets)/\x.cell? ⟨w.heap.size,4,none⟩=some (.int .i64 c.ways)/\x.cell? ⟨w.heap.size,5,none⟩=some (.int .i64 c.cap)/\x.cell? ⟨w.heap.size,6,none⟩=some (.int .i64 c.wait)/\x.cell? ⟨w.heap.size,7,none⟩=some (.int .i64 c.tries)/\x.cell? ⟨w.heap.size,8,none⟩=some (.int .i64 c.policy)) ((refine KEEP.out _ ?_;(repeat (with_reducible first | exact H1.out | apply below_alloc | apply Below.drew | exact Below.refl _ _)))) ((first | (go_at_call 22;refine(NC.out _).mono ?_;rintro e w1 ⟨rfl,hN,hb⟩;have H1:=AS (show Below wB.heap.size wB w1 from(Below.drew (Below.refl _ _)).trans hb);have N1:=AS (hN.keep (F':=fun x=>wB.heap.size≤x/\x < w1.heap.size) (KS.refl (fun _=>False) _) (fun x hx hF=>⟨⟨hF,hx⟩,id⟩));clear hN hb) | fail))
  all_goals
   go_wp2_with fail
   go_meet
   exact⟨w1,_,rfl,rfl,H1.out,N1.out⟩
 case rest =>
  obtain⟨w1,y1,rfl,rfl,hb1,hN1⟩:=hcut
  have H1:=AS hb1
  have N1:=AS hN1
  clear e0_ e1_ e2_ e3_ e4_ e5_ e6_ e7_ e8_ hb1 hN1
  have H2:=AS (below_alloc H1.out (.cells #[.int .i64 c.nodes,.int .i64 c.blocks,.int .i64 c.tokens,.int .i64 c.sets,.int .i64 c.ways,.int .i64 c.cap,.int .i64 c.wait,.int .i64 c.tries,.int .i64 c.policy,.int .i64 0,.int .i64 0,.slice none 0 0,.pointer none,.pointer (some ⟨y1,0,none⟩)] 91))
  have G2:=AS (blk_new w1 (.cells #[.int .i64 c.nodes,.int .i64 c.blocks,.int .i64 c.tokens,.int .i64 c.sets,.int .i64 c.ways,.int .i64 c.cap,.int .i64 c.wait,.int .i64 c.tries,.int .i64 c.policy,.int .i64 0,.int .i64 0,.slice none 0 0,.pointer none,.pointer (some ⟨y1,0,none⟩)] 91))
  have N2:=AS (N1.out.keep (F':=fun x=>wB.heap.size≤x/\x < w1.heap.size) (w':=w1.alloc (.cells #[.int .i64 c.nodes,.int .i64 c.blocks,.int .i64 c.tokens,.int .i64 c.sets,.int .i64 c.ways,.int .i64 c.cap,.int .i64 c.wait,.int .i64 c.tries,.int .i64 c.policy,.int .i64 0,.int .i64 0,.slice none 0 0,.pointer none,.pointer (some ⟨y1,0,none⟩)] 91)) (KS.below (fun _=>False) (below_alloc (Below.refl _ _) _)) (fun x _ h=>⟨h,id⟩))
  have S2:=AS (sz_alloc w1 (.cells #[.int .i64 c.nodes,.int .i64 c.blocks,.int .i64 c.tokens,.int .i64 c.sets,.int .i64 c.ways,.int .i64 c.cap,.int .i64 c.wait,.int .i64 c.tries,.int .i64 c.policy,.int .i64 0,.int .i64 0,.slice none 0 0,.pointer none,.pointer (some ⟨y1,0,none⟩)] 91))
  generalize w1.alloc (.cells #[.int .i64 c.nodes,.int .i64 c.blocks,.int .i64 c.tokens,.int .i64 c.sets,.int .i64 c.ways,.int .i64 c.cap,.int .i64 c.wait,.int .i64 c.tries,.int .i64 c.policy,.int .i64 0,.int .i64 0,.slice none 0 0,.pointer none,.pointer (some ⟨y1,0,none⟩)] 91)=W2 at H2 G2 N2 S2 ⊢
  generalize hg0:w1.heap.size=g0 at *
  obtain⟨e0_,e1_,e2_,e3_,e4_,e5_,e6_,e7_,e8_⟩:=KEEP.out W2 H2.out
  go_wp2_with fail
  refine(HC.out _).mono ?_
  rintro e w3 ⟨b3,rfl,hH,hb3⟩
  have H3:=AS hb3
  have HH:=AS hH
  have G3:=AS (blk_below G2.out hb3)
  have N3:=AS (N2.out.keep (F':=fun x=>wB.heap.size≤x/\x < g0) (KS.below (fun _=>False) hb3) (fun x _ h=>⟨h,id⟩))
  have c12:=cw G3.out 12 (v:=.pointer none)
  have z12:=blk_frozen G3.out 12
  clear e0_ e1_ e2_ e3_ e4_ e5_ e6_ e7_ e8_ hH hb3
  go_upto_region 6 with fail
  have R0:=AS (show(∃ p' K',WldK c (⟨0,0,(List.range 0).map (fun(i:Nat)=>S.Node.new i),Home.new c,[]⟩:S.World) g0 p' K' (w3.setCell ⟨g0,12,none⟩ (.pointer (some ⟨b3,0,none⟩)))/\(∀ x,x < (w3.setCell ⟨g0,12,none⟩ (.pointer (some ⟨b3,0,none⟩))).heap.size->K' x < 100->w.heap.size≤x)/\K' w.heap.size=200/\(w3.setCell ⟨g0,12,none⟩ (.pointer (some ⟨b3,0,none⟩))).heap[w.heap.size]?=some (.cells #[.int .i64 c.nodes,.int .i64 c.blocks,.int .i64 c.tokens,.int .i64 c.sets,.int .i64 c.ways,.int .i64 c.cap,.int .i64 c.wait,.int .i64 c.tries,.int .i64 c.policy] 23 (0,0))/\Below w.heap.size w (w3.setCell ⟨g0,12,none⟩ (.pointer (some ⟨b3,0,none⟩)))) from by
   have hkb:=KS.set (KS.refl (fun x=>x=g0) w3) (.inl rfl) 12 (.pointer (some ⟨b3,0,none⟩)) (g:=g0)
   have hz1:=B2'.out.size
   have hz2:=H1.out.size
   have hz3:=H3.out.size
   have hz4:=S2.out
   have hz5:=SZ.out
   have hz6:=blk_lt BN2.out
   refine⟨⟨b3,y1,none,0,[]⟩,_,WldK.mk0 (F2:=nw W2) (F3:=fun x=>wB.heap.size≤x/\x < g0) ?_ (HH.out.keep hkb (fun x _ h=>⟨h,fun e=>by have h':W2.heap.size≤x:=h;have e':x=g0:=e;omega⟩)) (N3.out.keep hkb (fun x _ h=>⟨h,fun e=>by have:=h.2;have e':x=g0:=e;omega⟩)) (fun h=>by have h':W2.heap.size≤g0:=h;omega) (fun h=>by have:=h.2;omega) (fun x h1 h2=>by have h1':W2.heap.size≤x:=h1;have:=h2.2;omega),fun x hx h100=>?_,?_,hkb.at_ (blk_below (blk_below BN2.out H2.out) (H3.out.mono (Nat.le_refl _))) (fun e=>by have e':w.heap.size=g0:=e;omega),?_⟩
   ·exact(blk_set G3.out 12 _).trans (by simp[wldC])
   ·by_cases e0:x=g0
    ·omega
    ·by_cases e1:nw W2 x
     ·have e1':W2.heap.size≤x:=e1;omega
     ·by_cases e2:wB.heap.size≤x/\x < g0
      ·omega
      ·simp only[if_neg e0,if_neg e1,if_neg e2] at h100;omega
   ·have e0:w.heap.size≠g0:=by omega
    have e1:¬ nw W2 w.heap.size:=fun h=>by have h':W2.heap.size≤w.heap.size:=h;omega
    have e2:¬ (wB.heap.size≤w.heap.size/\w.heap.size < g0):=fun h=>by omega
    simp only[if_neg e0,if_neg e1,if_neg e2]
   ·exact(B2'.out.trans (H2.out.mono hz1)).trans ((H3.out.mono (by omega)).trans (hkb.toBelow (fun y hy=>by have hy':y=g0:=hy;omega) (by omega))))
  generalize w3.setCell ⟨g0,12,none⟩ (.pointer (some ⟨b3,0,none⟩))=W4 at R0 ⊢
  clear c12 z12
  have k0_:W4.cell? ⟨w.heap.size,0,none⟩=some (.int .i64 c.nodes):=by obtain⟨p',K',-,-,-,h,-⟩:=R0.out;exact(cw h 0)
  go_wp2_with fail
  go_loopw [6,7,8,30] (fun v6 v7 v8 v30 wr=>∃ i:Nat,v30=.int .i64 i/\(i:Int)≤c.nodes/\Aside0 (∃ p' K',WldK c (⟨0,0,(List.range i).map (fun(i:Nat)=>S.Node.new i),Home.new c,[]⟩:S.World) g0 p' K' wr/\(∀ x,x < wr.heap.size->K' x < 100->w.heap.size≤x)/\K' w.heap.size=200/\wr.heap[w.heap.size]?=some (.cells #[.int .i64 c.nodes,.int .i64 c.blocks,.int .i64 c.tokens,.int .i64 c.sets,.int .i64 c.ways,.int .i64 c.cap,.int .i64 c.wait,.int .i64 c.tries,.int .i64 c.policy] 23 (0,0))/\Below w.heap.size w wr)) (fun _ _ _ v30 _=>65 - (intOf v30).toNat)
  case atStart=>exact⟨0,rfl,by omega,R0⟩
  case round =>
   obtain⟨i,rfl,hi,R⟩:=hrel
   obtain⟨p',K',r1,r2,r3,r4,r5⟩:=R.out
   by_cases hcc:(i:Int) < c.nodes
   ·have hpl:p'.ns.length=i:=by rw[r1.2.2.2.2.2.2.1];simp
    obtain⟨ph,py,A',cp',ns'⟩:=p'
    simp only at hpl
    subst hpl
    obtain⟨e0_,e1_,e2_,e3_,e4_,e5_,e6_,e7_,e8_⟩:=(show wr.cell? ⟨w.heap.size,0,none⟩=some (.int .i64 c.nodes)/\wr.cell? ⟨w.heap.size,1,none⟩=some (.int .i64 c.blocks)/\wr.cell? ⟨w.heap.size,2,none⟩=some (.int .i64 c.tokens)/\wr.cell? ⟨w.heap.size,3,none⟩=some (.int .i64 c.sets)/\wr.cell? ⟨w.heap.size,4,none⟩=some (.int .i64 c.ways)/\wr.cell? ⟨w.heap.size,5,none⟩=some (.int .i64 c.cap)/\wr.cell? ⟨w.heap.size,6,none⟩=some (.int .i64 c.wait)/\wr.cell? ⟨w.heap.size,7,none⟩=some (.int .i64 c.tries)/\wr.cell? ⟨w.heap.size,8,none⟩=some (.int .i64 c.policy) from⟨cw r4 0,cw r4 1,cw r4 2,cw r4 3,cw r4 4,cw r4 5,cw r4 6,cw r4 7,cw r4 8⟩)
    have RX:=AS (And.intro r1 (And.intro r2 (And.intro r3 (And.intro r4 r5))))
    have hlg0:=blk_lt r1.1
    have NCC:=AS (NN.out ns'.length hcc wr)
    clear r1 r2 r3 r4 r5
    go_wp2_with fail
    refine NCC.out.mono ?_
    rintro e w5 ⟨b5,rfl,hN5,hb5⟩
    have H5:=AS hb5
    have N5:=AS hN5
    have k12:=cw (blk_below RX.out.1.1 hb5) 11 (v:=.slice A' ns'.length cp')
    have OA:=AS (show OwnE ptrE (.slice A' ns'.length cp') (ns'.map some) (w5.alloc (.cells #[.pointer (some ⟨b5,0,none⟩)] 94)) from RX.out.1.2.2.1.ks (KS.below (fun _=>False) (below_alloc H5.out _)) (fun _ _=>id))
    have RA:=AS (show RowE ptrE (w5.alloc (.cells #[.pointer (some ⟨b5,0,none⟩)] 94)) (some ⟨w5.heap.size,0,none⟩) [some b5] from rowE_one (E:=ptrE) (x:=some b5) (blk_new w5 (.cells #[.pointer (some ⟨b5,0,none⟩)] 94)))
    clear hb5 hN5 e0_ e1_ e2_ e3_ e4_ e5_ e6_ e7_ e8_
    go_wp2_with (first | (at_builtin;refine list_appE (E:=ptrE) (xs:=ns'.map some) (ys:=[some b5]) (by kernel_rfl) _ _ rfl rfl rfl rfl (by exact OA.out) (by exact RA.out) (by show _ * 8≤_;simp;omega) ?_;intro v1 w3 hO hK hf;have hk3:KS (fun x=>x∈foot (.slice A' ns'.length cp')) (w5.alloc (.cells #[.pointer (some ⟨b5,0,none⟩)] 94)) w3:=KS.keeps hK;have hf4:∀ x∈foot (.slice A' ns'.length cp'),K' x=1:=RX.out.1.2.2.2.1;have hg0f:g0∉foot (.slice A' ns'.length cp'):=(fun e=>by have h1:=hf4 g0 e;have h2:=RX.out.1.2.1;omega);obtain⟨A3,n3,k3,rfl⟩:∃ A n c,v1=.slice A n c:=(by obtain⟨A,c,h,_⟩:=OwnE.row hO;exact⟨_,_,_,h⟩);have hn3:n3=ns'.length+1:=(by obtain⟨A,c,h,_⟩:=OwnE.row hO;injection h with h1 h2 h3;simpa using h2);subst hn3;have Y1:=AS (hk3.at_ (blk_alloc (blk_below RX.out.1.1 H5.out) (.cells #[.pointer (some ⟨b5,0,none⟩)] 94)) hg0f);have y2:w3.frozen? ⟨g0,11,none⟩=false:=blk_frozen Y1.out 11;have y3:w3.cell? ⟨g0,11,none⟩=some (.slice A' ns'.length cp'):=cw Y1.out 11;have FI:=AS (WldK.push (A':=A3) (cp':=k3) (n:=S.Node.new ns'.length) (G:=fun x=>wr.heap.size≤x) RX.out.1 (below_alloc H5.out (.cells #[.pointer (some ⟨b5,0,none⟩)] 94)) (N5.out.keep (KS.below (fun _=>False) (below_alloc (Below.refl _ _) _)) (fun x _ hF=>⟨hF,id⟩)) (fun x h=>h) (by show ns'.length < 64;omega) hO hk3 (fun x hx=>by rcases hf with e | e;exact .inl (by rw[e] at hx;exact hx);exact .inr (by rw[e] at hx;simp only[List.mem_singleton] at hx;omega)));clear hO hK hf hk3 hf4 hg0f) | fail)
    go_roundw
    case rel =>
     obtain⟨x1,x2,x3,x4,x5⟩:=RX.out
     obtain⟨K2,m1,m2,m3⟩:=FI.out
     have hcl:=blk_lt x4
     refine⟨ns'.length+1,by go_num,by omega,⟨⟨(⟨ph,py,A3,k3,ns' ++ [b5]⟩:WPt),K2,?_,?_,?_,?_,?_⟩⟩⟩
     ·have e1:(List.range (ns'.length+1)).map (fun(i:Nat)=>S.Node.new i)=(List.range ns'.length).map (fun(i:Nat)=>S.Node.new i) ++ [S.Node.new ns'.length]:=by rw[List.range_succ,List.map_append];rfl
      rw[e1];exact m2
     ·intro x hx h100
      by_cases hl:x < wr.heap.size
      ·rw[m1 x hl] at h100;exact x2 x hl h100
      ·have:=x5.size;omega
     ·exact(m1 _ hcl).trans x3
     ·exact m3.at_ x4 (by show ¬ K' _≤1;omega)
     ·refine x5.trans (m3.toBelow (fun y hy=>?_) x5.size)
      by_cases hl:y < wr.heap.size
      ·exact x2 y hl (by have hy':K' y≤1:=hy;omega)
      ·have:=x5.size;omega
    case measure=>simp[intOf];omega
   ·have hin:(i:Int)=c.nodes:=by omega
    have RX:=AS (And.intro r1 (And.intro r2 r5))
    have HIN:=AS hin
    clear r1 r2 r3 r4 r5 hin
    go_wp2
    refine bodyPost_ret (v:=.tuple #[.pointer (some ⟨g0,0,none⟩),.int .i64 0]) (by simp[results,Tryz.results8,go_sem]) rfl ?_
    obtain⟨r1,r2,r5⟩:=RX.out
    refine⟨g0,rfl,⟨p',K',?_,r2⟩,r5⟩
    have e1:S.World.new c=(⟨0,0,(List.range i).map (fun(i:Nat)=>S.Node.new i),Home.new c,[]⟩:S.World):=by
     have:=HIN.out
     unfold S.World.new
     rw[show c.nodes.toNat=i by omega]
    rw[e1];exact r1
end Go.Proofs.YtiebppkhaiofeaaGreat.K
