/- Part of the proof of TopStarver: what functions of the program do. -/
import Derived.Test.YtiebppkhaiofeaaGreatS08
set_option maxHeartbeats 4000000
set_option maxRecDepth 100000
set_option linter.unusedVariables false
set_option linter.unusedSimpArgs false
namespace Go.Proofs.YtiebppkhaiofeaaGreat.K
open Go.RowKit Go.Proofs.YtiebppkhaiofeaaGreatW.PrintWords Go.Proofs.YtiebppkhaiofeaaGreat.S
attribute [local go_sem] World.cell?_alloc_some
open Go.ChangeMaps Go.MapKept
theorem cacDo_any {c:Cfg} {s:Cache} {b bl bt:Nat} {F:Set_} {w:Go.World} (hC0:CacB c s b bl bt F w) (ob:Int) (ow:Bool) (ov:Int):Calls Tryz.prog 110 #[.pointer (some ⟨b,0,none⟩),.agg #[.int .i64 ob,.bool ow,.int .i64 ov],.int .i64 c.tokens] w (CacP (.tuple #[.int .i64 (s.doIt c ⟨ob,ow,ov⟩).2.1,.bool (s.doIt c ⟨ob,ow,ov⟩).2.2]) c (s.doIt c ⟨ob,ow,ov⟩).1 b bl bt F w):=by
 have hC:=hC0.trim
 have hbl:=hC.lt
 have hdo:s.doIt c ⟨ob,ow,ov⟩=if (doOp ⟨ob,ow,ov⟩ (s.tok ob) c.tokens).2.2 then ((({ s with tok:=upd s.tok ob (doOp ⟨ob,ow,ov⟩ (s.tok ob) c.tokens).1 }:Cache).use c ob).1,(doOp ⟨ob,ow,ov⟩ (s.tok ob) c.tokens).2) else (s,(doOp ⟨ob,ow,ov⟩ (s.tok ob) c.tokens).2):=rfl
 generalize s.doIt c ⟨ob,ow,ov⟩=dr at *
 have CX:=AS (hC.below (below_alloc (Below.refl _ _) (.cells #[.int .i64 ob,.bool ow,.int .i64 ov] 50)))
 have XO:=AS (blk_new w (.cells #[.int .i64 ob,.bool ow,.int .i64 ov] 50))
 have CHX:=AS ((Ch.refl F w).alloc (.cells #[.int .i64 ob,.bool ow,.int .i64 ov] 50))
 have hl:=(CX.out.below (Below.drew (Below.refl _ _))).look ob
 generalize hy:s.tok ob=y at *
 obtain⟨y0,y1,y2,y3⟩:=y
 generalize hd:doOp ⟨ob,ow,ov⟩ ⟨y0,y1,y2,y3⟩ c.tokens=dd at *
 obtain⟨⟨b0_,b1_,b2_,b3_⟩,dv,dk⟩:=dd
 have HD:=AS (show doV (doOp ⟨ob,ow,ov⟩ ⟨y0,y1,y2,y3⟩ c.tokens)=.tuple #[.agg #[.int .i64 b0_,.bool b1_,.bool b2_,.int .i64 b3_],.int .i64 dv,.bool dk] by rw[hd];rfl)
 have HDR:=AS hdo
 have HY:=AS hy
 simp only[bunV] at hl
 clear hC hC0 hy hd hdo
 go_enter Tryz.func110,Tryz.ntmps110
 go_upto_region 1 with fail
 generalize w.alloc (.cells #[.int .i64 ob,.bool ow,.int .i64 ov] 50)=W at CX XO CHX hl ⊢
 have c1:=cw CX.out.blk 1 (v:=.map (some bt))
 have o_0:=cw XO.out 0 (v:=.int .i64 ob)
 have o_1:=cw XO.out 1 (v:=.bool ow)
 have o_2:=cw XO.out 2 (v:=.int .i64 ov)
 go_cut [8,9,10] (fun v8 v9 v10 wx=>∃ g,v8=.pointer (some ⟨g,0,none⟩)/\v9=.int .i64 dv/\v10=.bool dk/\w.heap.size < g/\wx.heap[g]?=some (.cells #[.int .i64 b0_,.bool b1_,.bool b2_,.int .i64 b3_] 45)/\Below W.heap.size W wx)
 case first =>
  have KEEP:=AS (show ∀ x,Below W.heap.size W x->(fun x=>x.cell? ⟨w.heap.size,0,none⟩=some (.int .i64 ob)/\x.cell? ⟨w.heap.size,1,none⟩=some (.bool ow)/\x.cell? ⟨w.heap.size,2,none⟩=some (.int .i64 ov)/\x.cell? ⟨b,1,none⟩=some (.map (some bt))/\(Instr.lookup 175 (.map (some bt)) (.int .i64 ob) false).run Tryz.prog x=.ok (.agg #[.int .i64 y0,.bool y1,.bool y2,.int .i64 y3]) x) x from fun x hb=>⟨cw (blk_below XO.out hb) 0,cw (blk_below XO.out hb) 1,cw (blk_below XO.out hb) 2,cw (CX.out.below hb).blk 1,by have:=(CX.out.below hb).look ob;rw[HY.out] at this;exact this⟩)
  have hsz:=blk_lt XO.out
  clear HDR CX XO CHX HY hbl
  go_region_held3 (fun x=>x.cell? ⟨w.heap.size,0,none⟩=some (.int .i64 ob)/\x.cell? ⟨w.heap.size,1,none⟩=some (.bool ow)/\x.cell? ⟨w.heap.size,2,none⟩=some (.int .i64 ov)/\x.cell? ⟨b,1,none⟩=some (.map (some bt))/\(Instr.lookup 175 (.map (some bt)) (.int .i64 ob) false).run Tryz.prog x=.ok (.agg #[.int .i64 y0,.bool y1,.bool y2,.int .i64 y3]) x) (first | exact KEEP.out _ (by (repeat (first | with_reducible exact Below.refl _ _ | with_reducible exact B1.out | with_reducible apply below_alloc | with_reducible apply Below.drew | refine Below.setCell ?_ (by dsimp only;omega) _)))) ((first | (go_at_call 142;refine(do_any _ _ _ _ _ _ _ _ W.drew).mono ?_;rintro e w1 ⟨rfl,hbe⟩;rw[HD.out];have B1:=AS (show Below W.heap.size W w1 from(Below.drew (Below.refl _ _)).trans (hbe.mono (Nat.le_refl _)));clear hbe) | (go_at_call 142;refine(do_any _ _ _ _ _ _ _ _ (W.alloc (.cells #[.int .i64 0,.bool false,.bool false,.int .i64 0] 45)).drew).mono ?_;rintro e w1 ⟨rfl,hbe⟩;rw[HD.out];have B1:=AS (show Below W.heap.size W w1 from Below.chain (Below.drew (below_alloc (Below.refl _ W) (.cells #[.int .i64 0,.bool false,.bool false,.int .i64 0] 45))) hbe);have Q1:=AS (show w1.heap[W.heap.size]?=some (.cells #[.int .i64 0,.bool false,.bool false,.int .i64 0] 45) from blk_below (blk_drew (blk_new W (.cells #[.int .i64 0,.bool false,.bool false,.int .i64 0] 45))) hbe);clear hbe;have q0:w1.cell? ⟨W.heap.size,0,none⟩=some (.int .i64 0):=cw Q1.out 0;have q1:w1.cell? ⟨W.heap.size,1,none⟩=some (.bool false):=cw Q1.out 1;have q2:w1.cell? ⟨W.heap.size,2,none⟩=some (.bool false):=cw Q1.out 2;have q3:w1.cell? ⟨W.heap.size,3,none⟩=some (.int .i64 0):=cw Q1.out 3;have qz:∀ j,w1.frozen? ⟨W.heap.size,j,none⟩=false:=fun j=>blk_frozen Q1.out j)))
  all_goals
   go_wp2_with fail
   go_meet
   first
    | exact⟨_,rfl,rfl,rfl,hsz,(blk_set (blk_set (blk_set (blk_set Q1.out 0 _) 1 _) 2 _) 3 _).trans (by simp),(((B1.out.setCell (p:=⟨_,_,none⟩) (Nat.le_refl _) _).setCell (p:=⟨_,_,none⟩) (Nat.le_refl _) _).setCell (p:=⟨_,_,none⟩) (Nat.le_refl _) _).setCell (p:=⟨_,_,none⟩) (Nat.le_refl _) _⟩
    | exact⟨_,rfl,rfl,rfl,by have:=B1.out.size;omega,blk_new w1 _,below_alloc B1.out _⟩
 case rest =>
  obtain⟨g,rfl,rfl,rfl,hg,hcut⟩:=hcut
  have CUT:=AS hcut
  clear hcut c1 hl o_0 o_1 o_2
  have C2:=AS (CX.out.below CUT.out.2)
  have XO2:=AS (blk_below XO.out CUT.out.2)
  have XB:=AS CUT.out.1
  have CH2:=AS (CHX.out.below CUT.out.2)
  clear CX XO CHX CUT
  cases dk
  ·have hdr:=HDR.out
   simp only[Bool.false_eq_true,if_false] at hdr
   subst hdr
   go_wp2
   go_ret2
   exact CacP.of rfl C2.out CH2.out
  ·have hdr:=HDR.out
   simp only[if_true] at hdr
   rw[use_eq] at hdr
   subst hdr
   have c1:=cw C2.out.blk 1 (v:=.map (some bt))
   have o_0:=cw XO2.out 0 (v:=.int .i64 ob)
   have o_1:=cw XO2.out 1 (v:=.bool ow)
   have o_2:=cw XO2.out 2 (v:=.int .i64 ov)
   have b_0:=cw XB.out 0 (v:=.int .i64 b0_)
   have b_1:=cw XB.out 1 (v:=.bool b1_)
   have b_2:=cw XB.out 2 (v:=.bool b2_)
   have b_3:=cw XB.out 3 (v:=.int .i64 b3_)
   obtain⟨es,ck,hrun,hC3,hk3⟩:=(C2.out.below (Below.drew (Below.refl _ wc))).put ob ⟨b0_,b1_,b2_,b3_⟩
   have C3:=AS hC3
   have XO3:=AS (hk3.at_ (blk_drew XO2.out) (notP0 (Nat.le_refl _)))
   have CH3:=AS (CH2.out.drew.same hk3)
   simp only[bunV] at hrun
   clear hC3 hk3
   go_upto_region 3 with fail
   go_cut [9] (fun v9 wx=>v9=.int .i64 dv/\wx=setBlock wc.drew bt (.map es ck))
   case first =>
    go_region
    all_goals
     go_wp2_with fail
     go_meet
     exact⟨rfl,rfl⟩
   case rest =>
    obtain⟨rfl,hw⟩:=hcut
    rw[<- hw] at C3 XO3 CH3
    clear hw hrun c1 o_0 o_1 o_2 b_0 b_1 b_2 b_3 XO2 XB CH2 C2
    have c0:=cw C3.out.blk 0 (v:=.pointer (some ⟨bl,0,none⟩))
    have o_0:=cw XO3.out 0 (v:=.int .i64 ob)
    have o_1:=cw XO3.out 1 (v:=.bool ow)
    have o_2:=cw XO3.out 2 (v:=.int .i64 ov)
    obtain⟨Fl,hL,hstep⟩:=(C3.out.below (Below.drew (Below.refl _ wc))).lin
    have HU:=AS (linUse_any hL ob)
    have ST:=AS hstep
    clear hL hstep
    go_upto_region 4 with fail
    go_cut [9] (fun v9 wx=>v9=.int .i64 dv/\CacB c ⟨(rUse c s.rows ob).1,upd s.tok ob ⟨b0_,b1_,b2_,b3_⟩⟩ b bl bt (gr (fun x=>F x/\x < w.heap.size) wc.drew) wx/\Ch F w (gr (fun x=>F x/\x < w.heap.size) wc.drew) wx)
    case first =>
     go_region_with (go_at_call 143;refine HU.out.mono ?_;rintro e w3 ⟨rfl,hL3,hk3⟩;have S3:=AS (ST.out _ _ hL3 hk3);clear hL3 hk3)
     all_goals
      go_wp2_with fail
      go_meet
      exact⟨rfl,S3.out.1,CH3.out.drew.op S3.out.2⟩
    case rest =>
     obtain⟨rfl,h1,h2⟩:=hcut
     have H1:=AS h1
     have H2:=AS h2
     clear h1 h2
     go_wp2
     go_ret2
     exact CacP.of rfl H1.out H2.out
end Go.Proofs.YtiebppkhaiofeaaGreat.K
namespace Go.Proofs.YtiebppkhaiofeaaGreat.K
open Go.RowKit Go.Proofs.YtiebppkhaiofeaaGreatW.PrintWords Go.Proofs.YtiebppkhaiofeaaGreat.S
attribute [local go_sem] World.cell?_alloc_some frz_alloc
theorem tickV_ex (c:Cfg) (lf td:Int) (ov:Bool) (nu:Int) (op:S.Op):∃ a b2 o2 r,tickV c lf td ov=.tuple #[.agg #[.int .i64 a,.int .i64 b2,.bool o2],.int .i64 r]/\S.Proc.tick c ⟨lf,td,ov,nu,op,true⟩=(⟨a,b2,o2,nu,op,true⟩,r):=by
 cases ov
 ·by_cases c1:1 < lf
  ·exact⟨wrap64 (lf - 1),td,false,0,by simp[tickV,c1],by simp[S.Proc.tick,c1]⟩
  ·by_cases c2:td < c.tries
   ·exact⟨max (double c.wait (wrap64 (td+1)) 1048576) 1,wrap64 (td+1),false,1,by simp[tickV,c1,c2],by simp[S.Proc.tick,c1,c2]⟩
   ·exact⟨0,td,true,2,by simp[tickV,c1,c2],by simp[S.Proc.tick,c1,c2]⟩
 ·exact⟨lf,td,true,0,by simp[tickV],by simp[S.Proc.tick]⟩
theorem ptick_any {c:Cfg} {p:S.Proc} {b:Nat} {w:Go.World} (hp:ProcAt c p b w) (h0:0≤c.wait) (h1:c.wait≤64):Calls Tryz.prog 96 #[.pointer (some ⟨b,0,none⟩)] w (ProcP c (.int .i64 (p.tick c).2) (p.tick c).1 b w):=by
 obtain⟨lf,td,ov,nu,⟨ob,ow,va⟩,bz⟩:=p
 unfold ProcAt at hp
 have c0:=cw hp 0 (v:=.int .i64 lf)
 have c1:=cw hp 1 (v:=.int .i64 td)
 have c2:=cw hp 2 (v:=.bool ov)
 have c3:=cw hp 3 (v:=.int .i64 c.wait)
 have c4:=cw hp 4 (v:=.int .i64 c.tries)
 have c5:=cw hp 5 (v:=.int .i64 nu)
 have c6:=cw hp 6 (v:=.int .i64 ob)
 have c7:=cw hp 7 (v:=.bool ow)
 have c8:=cw hp 8 (v:=.int .i64 va)
 have c9:=cw hp 9 (v:=.bool bz)
 have z0:=blk_frozen hp 0
 have z1:=blk_frozen hp 1
 have z2:=blk_frozen hp 2
 have z3:=blk_frozen hp 3
 have z4:=blk_frozen hp 4
 have z5:=blk_frozen hp 5
 have z6:=blk_frozen hp 6
 have z7:=blk_frozen hp 7
 have z8:=blk_frozen hp 8
 have z9:=blk_frozen hp 9
 have HP:=AS hp
 clear hp
 cases bz
 ·go_enter Tryz.func96,Tryz.ntmps96
  go_wp2
  go_ret
  exact⟨rfl,HP.out,Keeps.refl _ _⟩
 ·obtain⟨a,b2,o2,r,ht,hs⟩:=tickV_ex c lf td ov nu ⟨ob,ow,va⟩
  rw[hs]
  have HT:=AS ht
  clear ht hs
  go_enter Tryz.func96,Tryz.ntmps96
  go_wp2_with fail
  go_region_with (go_at_call 138;refine(ttick_any c lf td ov _ h0 h1).mono ?_;rintro e w1 ⟨rfl,hbl⟩;have X1:=AS (blk_below (blk_drew HP.out) hbl);have HB:=AS hbl;clear hbl;rw[HT.out];have y0:w1.cell? ⟨b,0,none⟩=some (.int .i64 lf):=cw X1.out 0;have y1:w1.cell? ⟨b,1,none⟩=some (.int .i64 td):=cw X1.out 1;have y2:w1.cell? ⟨b,2,none⟩=some (.bool ov):=cw X1.out 2;have q0:=blk_frozen X1.out 0;have q1:w1.frozen? ⟨b,1,none⟩=false:=blk_frozen X1.out 1;have q2:w1.frozen? ⟨b,2,none⟩=false:=blk_frozen X1.out 2)
  all_goals
   go_wp2
   go_ret
   have hf:=blk_set (blk_set (blk_set X1.out 0 (.int .i64 a)) 1 (.int .i64 b2)) 2 (.bool o2)
   have hk:=(((Keeps.trans (Keeps.drew (Keeps.refl [b] w)) (Keeps.below [] HB.out) (by simp)).set (g:=b) (.inl (by simp)) 0 (.int .i64 a)).set (g:=b) (.inl (by simp)) 1 (.int .i64 b2)).set (g:=b) (.inl (by simp)) 2 (.bool o2)
   refine⟨rfl,?_,?_⟩
   ·simp only[ProcAt]
    refine Eq.trans hf ?_
    simp[procC]
   ·with_reducible exact hk
end Go.Proofs.YtiebppkhaiofeaaGreat.K
namespace Go.Proofs.YtiebppkhaiofeaaGreat.K
open Go.RowKit Go.Proofs.YtiebppkhaiofeaaGreatW.PrintWords Go.Proofs.YtiebppkhaiofeaaGreat.S
open Go.ChangeMaps Go.MapKept
structure NPtr where
 b:Nat
 bc:Nat
 bl:Nat
 bct:Nat
 bt:Nat
 bp:Nat
 ba:Nat
 bo:Nat
 q:Nat
def nodeC (c:Cfg) (n:S.Node) (p:NPtr):Array Value:=#[.int .i64 c.nodes,.int .i64 c.blocks,.int .i64 c.tokens,.int .i64 c.sets,.int .i64 c.ways,.int .i64 c.cap,.int .i64 c.wait,.int .i64 c.tries,.int .i64 c.policy,
 .int .i64 n.id,.pointer (some ⟨p.bc,0,none⟩),.pointer (some ⟨p.bt,0,none⟩),.pointer (some ⟨p.bp,0,none⟩),.map (some p.ba),.map (some p.bo)]
def MapB (g:Int->Bool) (b:Nat) (w:Go.World):Prop:=∃ es ck f,w.heap[b]?=some (.map es ck)/\IM es ck f/\∀ k,(f k).getD (.bool false)=.bool (g k)
def MapI (g:Int->Int) (b:Nat) (w:Go.World):Prop:=∃ es ck f,w.heap[b]?=some (.map es ck)/\IM es ck f/\∀ k,(f k).getD (.int .i64 0)=.int .i64 (g k)
def NodeK (c:Cfg) (n:S.Node) (p:NPtr) (K:Nat->Nat) (w:Go.World):Prop :=
 w.heap[p.b]?=some (.cells (nodeC c n p) 133 (0,0))/\K p.b=0/\CacB c n.lines p.bc p.bl p.bct (fun x=>K x=1) w/\TabAt n.know p.bt (fun x=>K x=2) w/\ProcAt c n.cpu p.bp w/\K p.bp=3/\MapB n.asked p.ba w/\K p.ba=4/\MapI n.told p.bo w/\K p.bo=5
def OutK (o:S.Out) (q:Nat) (K:Nat->Nat) (w:Go.World):Prop :=
 ∃ vl vd,w.heap[q]?=some (.cells #[vl,vd] 138 (0,0))/\OwnE letE vl o.letters w/\OwnE doneE vd o.done w/\q∉foot vl/\q∉foot vd/\(∀ x∈foot vl,x∉foot vd)/\K q=6/\(∀ x∈foot vl,K x=6)/\(∀ x∈foot vd,K x=6)
def rec_ (K:Nat->Nat) (w:Go.World) (k:Nat):Nat->Nat:=fun x=>if x < w.heap.size then K x else k
theorem rec_old {K:Nat->Nat} {w:Go.World} {k x:Nat} (h:x < w.heap.size):rec_ K w k x=K x:=if_pos h
theorem rec_new {K:Nat->Nat} {w:Go.World} {k x:Nat} (h:w.heap.size≤x):rec_ K w k x=k:=if_neg (by omega)
section
variable {c:Cfg} {n:S.Node} {o:S.Out} {p:NPtr} {K K':Nat->Nat} {w w':Go.World} {G:Set_} {q:Nat}
theorem MapB.keep {g:Int->Bool} {b:Nat} (h:MapB g b w) (hk:KS G w w') (hb:¬ G b):MapB g b w':=by
 obtain⟨es,ck,f,h1,h2⟩:=h
 exact⟨es,ck,f,hk.at_ h1 hb,h2⟩
theorem MapI.keep {g:Int->Int} {b:Nat} (h:MapI g b w) (hk:KS G w w') (hb:¬ G b):MapI g b w':=by
 obtain⟨es,ck,f,h1,h2⟩:=h
 exact⟨es,ck,f,hk.at_ h1 hb,h2⟩
theorem MapB.lt {g:Int->Bool} {b:Nat} (h:MapB g b w):b < w.heap.size:=by obtain⟨es,ck,f,h1,h2⟩:=h;exact blk_lt h1
theorem MapI.lt {g:Int->Int} {b:Nat} (h:MapI g b w):b < w.heap.size:=by obtain⟨es,ck,f,h1,h2⟩:=h;exact blk_lt h1
theorem NodeK.keep (h:NodeK c n p K w) (hk:KS G w w') (hs:∀ x,x < w.heap.size->K x≤5->K' x=K x/\¬ G x):NodeK c n p K' w':=by
 obtain⟨h1,h2,h3,h4,h5,h6,h7,h8,h9,h10⟩:=h
 have e1:=hs p.b (blk_lt h1) (by omega)
 have e2:=hs p.bp (blk_lt h5) (by omega)
 have e3:=hs p.ba h7.lt (by omega)
 have e4:=hs p.bo h9.lt (by omega)
 refine⟨hk.at_ h1 e1.2,by rw[e1.1];exact h2,h3.keep hk (fun x hx hF=>?_),h4.keep hk (fun x hx hF=>?_),hk.at_ h5 e2.2,by rw[e2.1];exact h6,h7.keep hk e3.2,by rw[e3.1];exact h8,h9.keep hk e4.2,by rw[e4.1];exact h10⟩
 ·have hF':K x=1:=hF
  have:=hs x hx (by omega)
  exact⟨by show K' x=1;omega,this.2⟩
 ·have hF':K x=2:=hF
  have:=hs x hx (by omega)
  exact⟨by show K' x=2;omega,this.2⟩
theorem OutK.keep (h:OutK o q K w) (hk:KS G w w') (hs:∀ x,x < w.heap.size->K x=6->K' x=6/\¬ G x):OutK o q K' w':=by
 obtain⟨vl,vd,h1,h2,h3,h4,h5,h6,h7,h8,h9⟩:=h
 exact⟨vl,vd,hk.at_ h1 (hs q (blk_lt h1) h7).2,h2.ks hk (fun x hx=>(hs x (h2.lt x hx) (h8 x hx)).2),h3.ks hk (fun x hx=>(hs x (h3.lt x hx) (h9 x hx)).2),h4,h5,h6,(hs q (blk_lt h1) h7).1,fun x hx=>(hs x (h2.lt x hx) (h8 x hx)).1,fun x hx=>(hs x (h3.lt x hx) (h9 x hx)).1⟩
end
def NO (c:Cfg) (n:S.Node) (o:S.Out) (p:NPtr) (K:Nat->Nat) (w:Go.World):Prop:=NodeK c n p K w/\OutK o p.q K w
def NOP (v:Value) (c:Cfg) (n:S.Node) (o:S.Out) (p:NPtr) (K:Nat->Nat) (w:Go.World) (e:Ending) (w':Go.World):Prop:=e=.returned v/\∃ K',(∀ x,x < w.heap.size->K' x=K x)/\NO c n o p K' w'/\KS (fun x=>K x≤6) w w'
section
variable {c:Cfg} {n:S.Node} {o:S.Out} {p:NPtr} {K K':Nat->Nat} {w w' W:Go.World} {G:Set_}
theorem NO.below (h:NO c n o p K w) (hb:Below w.heap.size w w') (k:Nat):NO c n o p (rec_ K w k) w':=⟨h.1.keep (KS.below (fun _=>False) hb) (fun x hx _=>⟨rec_old hx,id⟩),h.2.keep (KS.below (fun _=>False) hb) (fun x hx hk=>⟨by rw[rec_old hx];exact hk,id⟩)⟩
theorem NO.cache (h:NO c n o p K w) {s:Cache} (hC:CacB c s p.bc p.bl p.bct (gr (fun x=>K x=1) w) w') (hk:KS (fun x=>K x=1) w w'):NO c { n with lines:=s } o p (rec_ K w 1) w':=by
 obtain⟨⟨h1,h2,h3,h4,h5,h6,h7,h8,h9,h10⟩,ho⟩:=h
 have e1:=rec_old (K:=K) (k:=1) (blk_lt h1)
 have e2:=rec_old (K:=K) (k:=1) (blk_lt h5)
 have e3:=rec_old (K:=K) (k:=1) h7.lt
 have e4:=rec_old (K:=K) (k:=1) h9.lt
 refine⟨⟨hk.at_ h1 (by show ¬ _=_;omega),by omega,hC.sub (fun x hx hF=>?_),h4.keep hk (fun x hx hF=>?_),hk.at_ h5 (by show ¬ _=_;omega),by omega,h7.keep hk (by show ¬ _=_;omega),by omega,h9.keep hk (by show ¬ _=_;omega),by omega⟩,ho.keep hk (fun x hx hF=>⟨by rw[rec_old hx];exact hF,by show ¬ _=_;omega⟩)⟩
 ·show rec_ K w 1 x=1
  rcases hF with hF | hF
  ·by_cases hl:x < w.heap.size
   ·rw[rec_old hl];exact hF
   ·rw[rec_new (by omega)]
  ·exact rec_new hF
 ·have hF':K x=2:=hF
  exact⟨by show rec_ K w 1 x=2;rw[rec_old hx];exact hF',by show ¬ _=_;omega⟩
theorem NO.table (h:NO c n o p K w) {t:Table} (hT:TabAt t p.bt (gr (fun x=>K x=2) w) w') (hk:KS (fun x=>K x=2) w w'):NO c { n with know:=t } o p (rec_ K w 2) w':=by
 obtain⟨⟨h1,h2,h3,h4,h5,h6,h7,h8,h9,h10⟩,ho⟩:=h
 have e1:=rec_old (K:=K) (k:=2) (blk_lt h1)
 have e2:=rec_old (K:=K) (k:=2) (blk_lt h5)
 have e3:=rec_old (K:=K) (k:=2) h7.lt
 have e4:=rec_old (K:=K) (k:=2) h9.lt
 refine⟨⟨hk.at_ h1 (by show ¬ _=_;omega),by omega,h3.keep hk (fun x hx hF=>?_),hT.keep (KS.refl (fun _=>False) w') (fun x hx hF=>⟨?_,id⟩),hk.at_ h5 (by show ¬ _=_;omega),by omega,h7.keep hk (by show ¬ _=_;omega),by omega,h9.keep hk (by show ¬ _=_;omega),by omega⟩,ho.keep hk (fun x hx hF=>⟨by rw[rec_old hx];exact hF,by show ¬ _=_;omega⟩)⟩
 ·have hF':K x=1:=hF
  exact⟨by show rec_ K w 2 x=1;rw[rec_old hx];exact hF',by show ¬ _=_;omega⟩
 ·show rec_ K w 2 x=2
  rcases hF with hF | hF
  ·by_cases hl:x < w.heap.size
   ·rw[rec_old hl];exact hF
   ·rw[rec_new (by omega)]
  ·exact rec_new hF
theorem NO.proc (h:NO c n o p K w) {pr:S.Proc} (hP:ProcAt c pr p.bp w') (hk:Keeps [p.bp] w w'):NO c { n with cpu:=pr } o p (rec_ K w 7) w':=by
 obtain⟨⟨h1,h2,h3,h4,h5,h6,h7,h8,h9,h10⟩,ho⟩:=h
 have hk':KS (fun x=>x=p.bp) w w':=KS.ofKeeps hk (by simp)
 have e1:=rec_old (K:=K) (k:=7) (blk_lt h1)
 have e2:=rec_old (K:=K) (k:=7) (blk_lt h5)
 have e3:=rec_old (K:=K) (k:=7) h7.lt
 have e4:=rec_old (K:=K) (k:=7) h9.lt
 have ne:∀ x,K x≠3->x≠p.bp:=fun x hx e=>hx (by rw[e];exact h6)
 refine⟨⟨hk'.at_ h1 (ne _ (by omega)),by omega,h3.keep hk' (fun x hx hF=>?_),h4.keep hk' (fun x hx hF=>?_),hP,by omega,h7.keep hk' (ne _ (by omega)),by omega,h9.keep hk' (ne _ (by omega)),by omega⟩,ho.keep hk' (fun x hx hF=>⟨by rw[rec_old hx];exact hF,ne _ (by omega)⟩)⟩
 ·have hF':K x=1:=hF
  exact⟨by show rec_ K w 7 x=1;rw[rec_old hx];exact hF',ne _ (by omega)⟩
 ·have hF':K x=2:=hF
  exact⟨by show rec_ K w 7 x=2;rw[rec_old hx];exact hF',ne _ (by omega)⟩
theorem NO.maps (h:NO c n o p K w) {b:Nat} {ob:Obj} (hb:b=p.ba∨b=p.bo) {f:Int->Bool} {g:Int->Int} (h1':MapB f p.ba (setBlock w b ob)) (h2':MapI g p.bo (setBlock w b ob)):NO c { n with asked:=f,told:=g } o p K (setBlock w b ob):=by
 obtain⟨⟨h1,h2,h3,h4,h5,h6,h7,h8,h9,h10⟩,ho⟩:=h
 have hk:KS (fun x=>x=b) w (setBlock w b ob):=(KS.refl (fun x=>x=b) w).block (.inl rfl) _
 have hKb:K b=4∨K b=5:=by rcases hb with rfl | rfl;exact .inl h8;exact .inr h10
 have ne:∀ x,K x≠4->K x≠5->x≠b:=fun x hx hy e=>by rw[e] at hx hy;rcases hKb with h | h;exact hx h;exact hy h
 exact⟨⟨hk.at_ h1 (ne _ (by omega) (by omega)),h2,h3.keep hk (fun x hx hF=>⟨hF,ne _ (by have hF':K x=1:=hF;omega) (by have hF':K x=1:=hF;omega)⟩),h4.keep hk (fun x hx hF=>⟨hF,ne _ (by have hF':K x=2:=hF;omega) (by have hF':K x=2:=hF;omega)⟩),hk.at_ h5 (ne _ (by omega) (by omega)),h6,h1',h8,h2',h10⟩,ho.keep hk (fun x hx hF=>⟨hF,ne _ (by omega) (by omega)⟩)⟩
theorem NOP.of {v v':Value} (hv:v'=v) (hK:∀ x,x < w.heap.size->K' x=K x) (hN:NO c n o p K' W) (hk:KS (fun x=>K x≤6) w W):NOP v c n o p K w (.returned v') W:=⟨by rw[hv],K',hK,hN,hk⟩
end
end Go.Proofs.YtiebppkhaiofeaaGreat.K
namespace Go.Proofs.YtiebppkhaiofeaaGreat.K
open Go.RowKit Go.Proofs.YtiebppkhaiofeaaGreatW.PrintWords Go.Proofs.YtiebppkhaiofeaaGreat.S
attribute [local go_sem] World.cell?_alloc_some
open Go.ChangeMaps Go.MapKept
theorem NodeK.lt {c:Cfg} {n:S.Node} {p:NPtr} {K:Nat->Nat} {w:Go.World} (h:NodeK c n p K w):p.b < w.heap.size:=blk_lt h.1
theorem own_eq (n:S.Node) (b:Int):(n.own b).isSome=((n.know.act b).isSome && decide ((Table.actOf n.know b).node=n.id)):=by
 unfold Node.own Table.actOf
 cases n.know.act b with
 | none=>rfl
 | some a=>by_cases h:a.node=n.id <;> simp[h]
theorem own_some_ {n:S.Node} {b:Int} (h:(n.own b).isSome=true):n.own b=some (Table.actOf n.know b):=by
 unfold Node.own Table.actOf at *
 cases h':n.know.act b with
 | none=>rw[h'] at h;simp at h
 | some a =>
  rw[h'] at h
  by_cases h2:a.node=n.id
  ·simp[h2]
  ·simp[h2] at h
theorem other_eq (n:S.Node) (b:Int):(n.other b).isSome=((n.know.act b).isSome && decide ((Table.actOf n.know b).node≠n.id)):=by
 unfold Node.other Table.actOf
 cases n.know.act b with
 | none=>rfl
 | some a=>by_cases h:a.node=n.id <;> simp[h]
theorem other_some_ {n:S.Node} {b:Int} (h:(n.other b).isSome=true):n.other b=some (Table.actOf n.know b).node:=by
 unfold Node.other Table.actOf at *
 cases h':n.know.act b with
 | none=>rw[h'] at h;simp at h
 | some a =>
  rw[h'] at h
  by_cases h2:a.node=n.id
  ·simp[h2] at h
  ·simp[h2]
theorem nodeHome_any {c:Cfg} {n:S.Node} {p:NPtr} {K:Nat->Nat} {w:Go.World} (hN:NodeK c n p K w) (k b s:Int):Calls Tryz.prog 98 #[.pointer (some ⟨p.b,0,none⟩),.int .i64 k,.int .i64 b,.int .i64 s] w (RV (letV (n.home c k b s)) w):=by
 have h1:=hN.1
 have hlt:=blk_lt h1
 clear hN
 have X:=AS (blk_alloc h1 (.cells #[.int .i64 0,.int .i64 0,.int .i64 0,.int .i64 0,.int .i64 0,.int .i64 0,.bool false,.int .i64 0,.bool false,.bool false,.int .i64 0] 47))
 have Y:=AS (blk_new w (.cells #[.int .i64 0,.int .i64 0,.int .i64 0,.int .i64 0,.int .i64 0,.int .i64 0,.bool false,.int .i64 0,.bool false,.bool false,.int .i64 0] 47))
 have B:=AS (below_alloc (Below.refl w.heap.size w) (.cells #[.int .i64 0,.int .i64 0,.int .i64 0,.int .i64 0,.int .i64 0,.int .i64 0,.bool false,.int .i64 0,.bool false,.bool false,.int .i64 0] 47))
 show Calls Tryz.prog 98 _ w (RV (.agg #[.int .i64 k,.int .i64 n.id,.int .i64 c.nodes,.int .i64 b,.int .i64 s,.int .i64 0,.bool false,.int .i64 0,.bool false,.bool false,.int .i64 0]) w)
 generalize p.b=pb at *
 go_enter Tryz.func98,Tryz.ntmps98
 go_upto_region 1 with fail
 generalize w.alloc (.cells #[.int .i64 0,.int .i64 0,.int .i64 0,.int .i64 0,.int .i64 0,.int .i64 0,.bool false,.int .i64 0,.bool false,.bool false,.int .i64 0] 47)=W at X Y B ⊢
 have c0:=cw X.out 0 (v:=.int .i64 c.nodes)
 have c9:=cw X.out 9 (v:=.int .i64 n.id)
 have hs:=blk_lt Y.out
 have KK:=AS (show ∀ x,Below w.heap.size W x->Below w.heap.size w x from fun x hx=>B.out.trans hx)
 have y0:=cw Y.out 0 (v:=.int .i64 0)
 have y1:=cw Y.out 1 (v:=.int .i64 0)
 have y2:=cw Y.out 2 (v:=.int .i64 0)
 have y3:=cw Y.out 3 (v:=.int .i64 0)
 have y4:=cw Y.out 4 (v:=.int .i64 0)
 have y5:=cw Y.out 5 (v:=.int .i64 0)
 have y6:=cw Y.out 6 (v:=.bool false)
 have y7:=cw Y.out 7 (v:=.int .i64 0)
 have y8:=cw Y.out 8 (v:=.bool false)
 have y9:=cw Y.out 9 (v:=.bool false)
 have y10:=cw Y.out 10 (v:=.int .i64 0)
 have z0:=blk_frozen Y.out 0
 have z1:=blk_frozen Y.out 1
 have z2:=blk_frozen Y.out 2
 have z3:=blk_frozen Y.out 3
 have z4:=blk_frozen Y.out 4
 have z5:=blk_frozen Y.out 5
 have z6:=blk_frozen Y.out 6
 have z7:=blk_frozen Y.out 7
 have z8:=blk_frozen Y.out 8
 have z9:=blk_frozen Y.out 9
 have z10:=blk_frozen Y.out 10
 go_cut [8] (fun v8 wx=>v8=.pointer (some ⟨w.heap.size,0,none⟩)/\wx.heap[w.heap.size]?=some (.cells #[.int .i64 k,.int .i64 n.id,.int .i64 c.nodes,.int .i64 b,.int .i64 s,.int .i64 0,.bool false,.int .i64 0,.bool false,.bool false,.int .i64 0] 47)/\Below w.heap.size w wx)
 case first =>
  go_region
  all_goals
   go_wp2_with fail
   go_meet
   have q0:=Y.out
   have q1:=blk_set q0 0 (.int .i64 k)
   have q2:=blk_set q1 1 (.int .i64 n.id)
   have q3:=blk_set q2 2 (.int .i64 c.nodes)
   have q4:=blk_set q3 3 (.int .i64 b)
   have q5:=blk_set q4 4 (.int .i64 s)
   have q6:=blk_set q5 5 (.int .i64 0)
   have q7:=blk_set q6 6 (.bool false)
   have q8:=blk_set q7 7 (.int .i64 0)
   have q9:=blk_set q8 8 (.bool false)
   have q10:=blk_set q9 9 (.bool false)
   have q11:=blk_set q10 10 (.int .i64 0)
   refine⟨rfl,(blk_drew q11).trans (by simp),?_⟩
   exact Below.drew (by repeat (first | with_reducible exact B.out | with_reducible refine Below.setCell ?_ (by dsimp only;omega) _))
 case rest =>
  obtain⟨rfl,hcut,hb⟩:=hcut
  clear y0 y1 y2 y3 y4 y5 y6 y7 y8 y9 y10 z0 z1 z2 z3 z4 z5 z6 z7 z8 z9 z10 c0 c9 X Y B
  have HB:=AS hb
  clear hb
  have y0:=cw hcut 0 (v:=.int .i64 k)
  have y1:=cw hcut 1 (v:=.int .i64 n.id)
  have y2:=cw hcut 2 (v:=.int .i64 c.nodes)
  have y3:=cw hcut 3 (v:=.int .i64 b)
  have y4:=cw hcut 4 (v:=.int .i64 s)
  have y5:=cw hcut 5 (v:=.int .i64 0)
  have y6:=cw hcut 6 (v:=.bool false)
  have y7:=cw hcut 7 (v:=.int .i64 0)
  have y8:=cw hcut 8 (v:=.bool false)
  have y9:=cw hcut 9 (v:=.bool false)
  have y10:=cw hcut 10 (v:=.int .i64 0)
  clear hcut
  go_wp2
  exact bodyPost_ret (v:=.agg #[.int .i64 k,.int .i64 n.id,.int .i64 c.nodes,.int .i64 b,.int .i64 s,.int .i64 0,.bool false,.int .i64 0,.bool false,.bool false,.int .i64 0]) (by simp[results,Tryz.results98,go_sem,y0,y1,y2,y3,y4,y5,y6,y7,y8,y9,y10]) rfl ⟨rfl,HB.out⟩
theorem outSend_any {o:S.Out} {q:Nat} {K:Nat->Nat} {w:Go.World} (hO:OutK o q K w) (hl:o.letters.length≤1000000000000) (l:Let):Calls Tryz.prog 97 #[.pointer (some ⟨q,0,none⟩),letV l] w (fun e w'=>e=.returned (.tuple #[])/\OutK (o.send l) q (rec_ K w 6) w'/\KS (fun x=>K x=6) w w'):=by
 obtain⟨vl,vd,h1,h2,h3,h4,h5,h6,h7,h8,h9⟩:=hO
 obtain⟨A,cp,hv,-⟩:=h2.row
 have hq:=blk_lt h1
 have hl2:=h2.lt
 have hl3:=h3.lt
 obtain⟨k,f,t,b,qq,wh,wr,⟨c,oo,h,d⟩⟩:=l
 have FIN:=AS (show ∀ w1 v',KS (fun x=>x∈foot vl) w w1->OwnE letE v' (o.letters ++ [⟨k,f,t,b,qq,wh,wr,⟨c,oo,h,d⟩⟩]) w1->(∀ x∈foot v',x∈foot vl∨w.heap.size≤x)->(OutK (o.send ⟨k,f,t,b,qq,wh,wr,⟨c,oo,h,d⟩⟩) q (rec_ K w 6) (w1.setCell ⟨q,0,none⟩ v')/\KS (fun x=>K x=6) w (w1.setCell ⟨q,0,none⟩ v')) from by
  intro w1 v' hk hO hf
  have hq6:rec_ K w 6 q=6:=(rec_old hq).trans h7
  have hv6:∀ x∈foot v',rec_ K w 6 x=6:=fun x hx=>by
   rcases hf x hx with h | h
   ·rw[rec_old (hl2 x h)];exact h8 x h
   ·exact rec_new h
  have hqv:q∉foot v':=fun hx=>by rcases hf q hx with h | h;exact h4 h;omega
  have hk2:=KS.set (KS.refl (fun x=>x=q) w1) (.inl rfl) 0 v' (g:=q)
  refine⟨⟨v',vd,(blk_set (hk.at_ h1 h4) 0 v').trans (by simp),hO.ks hk2 (fun x hx e=>hqv (e ▸ hx)),(h3.ks hk (fun x hx e=>h6 x e hx)).ks hk2 (fun x hx e=>h5 (e ▸ hx)),hqv,h5,fun x hx hd=>?_,hq6,hv6,fun x hx=>by rw[rec_old (hl3 x hx)];exact h9 x hx⟩,(hk.mono (fun x _ hx=>h8 x hx)).trans hk2 (fun x _ e=>by rw[e];exact h7)⟩
  rcases hf x hx with h | h
  ·exact h6 x h hd
  ·have:=hl3 x hd;omega)
 have OA:=AS (show OwnE letE vl o.letters (((w.alloc (.cells #[.int .i64 k,.int .i64 f,.int .i64 t,.int .i64 b,.int .i64 qq,.int .i64 wh,.bool wr,.int .i64 c,.bool oo,.bool h,.int .i64 d] 47)).drew).alloc (.cells #[.int .i64 k,.int .i64 f,.int .i64 t,.int .i64 b,.int .i64 qq,.int .i64 wh,.bool wr,.int .i64 c,.bool oo,.bool h,.int .i64 d] 47)) from h2.ks (KS.below (fun _=>False) (below_alloc (Below.drew (below_alloc (Below.refl _ _) _)) _)) (fun _ _=>id))
 have RA:=AS (show RowE letE (((w.alloc (.cells #[.int .i64 k,.int .i64 f,.int .i64 t,.int .i64 b,.int .i64 qq,.int .i64 wh,.bool wr,.int .i64 c,.bool oo,.bool h,.int .i64 d] 47)).alloc (.cells #[.int .i64 k,.int .i64 f,.int .i64 t,.int .i64 b,.int .i64 qq,.int .i64 wh,.bool wr,.int .i64 c,.bool oo,.bool h,.int .i64 d] 47)).drew) (some ⟨w.heap.size+1,0,none⟩) [⟨k,f,t,b,qq,wh,wr,⟨c,oo,h,d⟩⟩] from by
  have hsz:(w.alloc (.cells #[.int .i64 k,.int .i64 f,.int .i64 t,.int .i64 b,.int .i64 qq,.int .i64 wh,.bool wr,.int .i64 c,.bool oo,.bool h,.int .i64 d] 47)).heap.size=w.heap.size+1:=by simp
  rw[<- hsz]
  exact rowE_one (E:=letE) (x:=⟨k,f,t,b,qq,wh,wr,⟨c,oo,h,d⟩⟩) (blk_drew (blk_new (w.alloc (.cells #[.int .i64 k,.int .i64 f,.int .i64 t,.int .i64 b,.int .i64 qq,.int .i64 wh,.bool wr,.int .i64 c,.bool oo,.bool h,.int .i64 d] 47)) (.cells #[.int .i64 k,.int .i64 f,.int .i64 t,.int .i64 b,.int .i64 qq,.int .i64 wh,.bool wr,.int .i64 c,.bool oo,.bool h,.int .i64 d] 47))))
 have HL:=AS hl
 have X:=AS (And.intro (blk_alloc h1 (.cells #[.int .i64 k,.int .i64 f,.int .i64 t,.int .i64 b,.int .i64 qq,.int .i64 wh,.bool wr,.int .i64 c,.bool oo,.bool h,.int .i64 d] 47)) (And.intro h1 h4))
 have Y:=AS (blk_new w (.cells #[.int .i64 k,.int .i64 f,.int .i64 t,.int .i64 b,.int .i64 qq,.int .i64 wh,.bool wr,.int .i64 c,.bool oo,.bool h,.int .i64 d] 47))
 clear h2 h3 h5 h6 h7 h8 h9 hl h1 h4
 subst hv
 show Calls Tryz.prog 97 #[.pointer (some ⟨q,0,none⟩),.agg #[.int .i64 k,.int .i64 f,.int .i64 t,.int .i64 b,.int .i64 qq,.int .i64 wh,.bool wr,.int .i64 c,.bool oo,.bool h,.int .i64 d]] w _
 go_enter Tryz.func97,Tryz.ntmps97
 go_upto_region 1 with fail
 have c0:=cw X.out.1 0 (v:=.slice A o.letters.length cp)
 have l0:=cw Y.out 0 (v:=.int .i64 k)
 have l1:=cw Y.out 1 (v:=.int .i64 f)
 have l2:=cw Y.out 2 (v:=.int .i64 t)
 have l3:=cw Y.out 3 (v:=.int .i64 b)
 have l4:=cw Y.out 4 (v:=.int .i64 qq)
 have l5:=cw Y.out 5 (v:=.int .i64 wh)
 have l6:=cw Y.out 6 (v:=.bool wr)
 have l7:=cw Y.out 7 (v:=.int .i64 c)
 have l8:=cw Y.out 8 (v:=.bool oo)
 have l9:=cw Y.out 9 (v:=.bool h)
 have l10:=cw Y.out 10 (v:=.int .i64 d)
 go_region_law (first | (refine step_appE (E:=letE) (xs:=o.letters) (ys:=[⟨k,f,t,b,qq,wh,wr,⟨c,oo,h,d⟩⟩]) (by kernel_rfl) _ _ rfl rfl rfl rfl (by exact OA.out) (by exact RA.out) (by have:=HL.out;show _ * 80≤_;simp;omega) ?_;intro v1 w1 hO hK hf;have KK:=AS (show KS (fun x=>x∈foot (.slice A o.letters.length cp)) w w1 from(KS.below _ (below_alloc (Below.drew (below_alloc (Below.refl _ _) (.cells #[.int .i64 k,.int .i64 f,.int .i64 t,.int .i64 b,.int .i64 qq,.int .i64 wh,.bool wr,.int .i64 c,.bool oo,.bool h,.int .i64 d] 47))) (.cells #[.int .i64 k,.int .i64 f,.int .i64 t,.int .i64 b,.int .i64 qq,.int .i64 wh,.bool wr,.int .i64 c,.bool oo,.bool h,.int .i64 d] 47))).trans (KS.keeps hK) (fun _ _ h=>h));have hfin:=FIN.out w1 v1 KK.out hO (by intro x hx;rcases hf with e | e;exact .inl (by rw[e] at hx;exact hx);exact .inr (by rw[e] at hx;simp[World.drew] at hx;omega));have FI:=AS hfin;have Y1:=AS (KK.out.at_ X.out.2.1 X.out.2.2);obtain⟨A1,n1,k1,rfl⟩:∃ A n c,v1=.slice A n c:=(by obtain⟨A,c,h,_⟩:=OwnE.row hO;exact⟨_,_,_,h⟩);clear hfin hO hK hf;have y2:=blk_frozen Y1.out 0;have y3:w1.cell? ⟨q,0,none⟩=some (.slice A o.letters.length cp):=cw Y1.out 0))
 all_goals
  go_wp2
  go_end0
  exact⟨rfl,FI.out⟩
end Go.Proofs.YtiebppkhaiofeaaGreat.K
