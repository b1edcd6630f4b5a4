/- Part of the proof of TopPolicies: what functions of the program do. -/
import Derived.Laws.StructEq
import Derived.Test.YtiebppkhaiofeaaGreatP04
import Derived.Test.YtiebppkhaiofeaaGreatP00
set_option maxHeartbeats 4000000
set_option maxRecDepth 100000
set_option linter.unusedVariables false
set_option linter.unusedSimpArgs false
open Go.IntKind renaming i64→I
open Go.Value renaming slice→J, int→V, bool→aA, pointer→bA
open Option renaming some→M, none→U
open Go.Obj renaming cells→O
open Go.ChangeMaps renaming setBlock→aB
open Go renaming Calls→bB, World→cA, bodyPost_ret→yA
open Go.Proofs.Tryz renaming prog→dA
open Go.Proofs.YtiebppkhaiofeaaGreatW.PrintWords renaming below_alloc→eA, blk_lt→eB, blk_drew→fB, blk_frozen→jA, blk_below→kA, blk_alloc→lA, blk_set→mA, blk_new→nA
open Go.RowKit.Below renaming refl→fA, drew→iA, setCell→oA
open Nat renaming le_refl→pA
open Go.Proofs.YtiebppkhaiofeaaGreat.K.KS renaming below→pB, refl→qB
open And renaming intro→qA
open Bool renaming false_eq_true→vA
open Go.Proofs.YtiebppkhaiofeaaGreat (vB xB yB zB)
namespace Go.Proofs.YtiebppkhaiofeaaGreat.K
open Go.RowKit Go.Proofs.YtiebppkhaiofeaaGreatW.PrintWords Go.Proofs.YtiebppkhaiofeaaGreat.S
attribute [local go_sem] World.cell?_alloc_some
open Go.ChangeMaps Go.MapKept
theorem cacDo_any {c:Cfg} {s:Cache} {b bl bt:Nat} {F:Set_} {w:cA} (hC0:CacB c s b bl bt F w) (ob:Int) (ow:Bool) (ov:Int):bB dA 110 #[bA (M ⟨b,0,U⟩),.agg #[V I ob,aA ow,V I ov],V I c.tokens] w (CacP (.tuple #[V I (s.doIt c ⟨ob,ow,ov⟩).2.1,aA (s.doIt c ⟨ob,ow,ov⟩).2.2]) c (s.doIt c ⟨ob,ow,ov⟩).1 b bl bt F w):=by
 have hC:=hC0.trim
 have hbl:=hC.lt
 have hdo:s.doIt c ⟨ob,ow,ov⟩=if (doOp ⟨ob,ow,ov⟩ (s.tok ob) c.tokens).2.2 then ((({ s with tok:=upd s.tok ob (doOp ⟨ob,ow,ov⟩ (s.tok ob) c.tokens).1 }:Cache).use c ob).1,(doOp ⟨ob,ow,ov⟩ (s.tok ob) c.tokens).2) else (s,(doOp ⟨ob,ow,ov⟩ (s.tok ob) c.tokens).2):=rfl
 generalize s.doIt c ⟨ob,ow,ov⟩=dr at *
 have CX:=AS (hC.below (eA (fA _ _) (O #[V I ob,aA ow,V I ov] 50)))
 have XO:=AS (nA w (O #[V I ob,aA ow,V I ov] 50))
 have CHX:=AS ((Ch.refl F w).alloc (O #[V I ob,aA ow,V I ov] 50))
 have hl:=(CX.out.below (iA (fA _ _))).look ob
 generalize hy:s.tok ob=y at *
 obtain⟨y0,y1,y2,y3⟩:=y
 generalize hd:doOp ⟨ob,ow,ov⟩ ⟨y0,y1,y2,y3⟩ c.tokens=dd at *
 obtain⟨⟨b0_,b1_,b2_,b3_⟩,dv,dk⟩:=dd
 have HD:=AS (show doV (doOp ⟨ob,ow,ov⟩ ⟨y0,y1,y2,y3⟩ c.tokens)=.tuple #[.agg #[V I b0_,aA b1_,aA b2_,V I b3_],V I dv,aA dk] by rw[hd];rfl)
 have HDR:=AS hdo
 have HY:=AS hy
 simp only[bunV] at hl
 clear hC hC0 hy hd hdo
 go_enter Tryz.func110,Tryz.ntmps110
 go_upto_region 1 with fail
 generalize w.alloc (O #[V I ob,aA ow,V I ov] 50)=W at CX XO CHX hl ⊢
 have c1:=cw CX.out.blk 1 (v:=.map (M bt))
 have o_0:=cw XO.out 0 (v:=V I ob)
 have o_1:=cw XO.out 1 (v:=aA ow)
 have o_2:=cw XO.out 2 (v:=V I ov)
 go_cut [8,9,10] (fun v8 v9 v10 wx=>∃ g,v8=bA (M ⟨g,0,U⟩)/\v9=V I dv/\v10=aA dk/\w.heap.size < g/\wx.heap[g]?=M (O #[V I b0_,aA b1_,aA b2_,V I b3_] 45)/\Below W.heap.size W wx)
 case first =>
  have KEEP:=AS (show ∀ x,Below W.heap.size W x->(fun x=>x.cell? ⟨w.heap.size,0,U⟩=M (V I ob)/\x.cell? ⟨w.heap.size,1,U⟩=M (aA ow)/\x.cell? ⟨w.heap.size,2,U⟩=M (V I ov)/\x.cell? ⟨b,1,U⟩=M (.map (M bt))/\(Instr.lookup 175 (.map (M bt)) (V I ob) false).run dA x=.ok (.agg #[V I y0,aA y1,aA y2,V I y3]) x) x from fun x hb=>⟨cw (kA XO.out hb) 0,cw (kA XO.out hb) 1,cw (kA XO.out hb) 2,cw (CX.out.below hb).blk 1,by have:=(CX.out.below hb).look ob;rw[HY.out] at this;exact this⟩)
  have hsz:=eB XO.out
  clear HDR CX XO CHX HY hbl
  go_region_held3 (fun x=>x.cell? ⟨w.heap.size,0,U⟩=M (V I ob)/\x.cell? ⟨w.heap.size,1,U⟩=M (aA ow)/\x.cell? ⟨w.heap.size,2,U⟩=M (V I ov)/\x.cell? ⟨b,1,U⟩=M (.map (M bt))/\(Instr.lookup 175 (.map (M bt)) (V I ob) false).run dA x=.ok (.agg #[V I y0,aA y1,aA y2,V I y3]) x) (first | exact KEEP.out _ (by (repeat (first | with_reducible exact fA _ _ | with_reducible exact B1.out | with_reducible apply eA | with_reducible apply iA | refine oA ?_ (by dsimp only;omega) _)))) ((first | (go_at_call 142;refine(do_any _ _ _ _ _ _ _ _ W.drew).mono ?_;rintro e w1 ⟨rfl,hbe⟩;rw[HD.out];have B1:=AS (show Below W.heap.size W w1 from(iA (fA _ _)).trans (hbe.mono (pA _)));clear hbe) | (go_at_call 142;refine(do_any _ _ _ _ _ _ _ _ (W.alloc (O #[V I 0,aA false,aA false,V I 0] 45)).drew).mono ?_;rintro e w1 ⟨rfl,hbe⟩;rw[HD.out];have B1:=AS (show Below W.heap.size W w1 from Below.chain (iA (eA (fA _ W) (O #[V I 0,aA false,aA false,V I 0] 45))) hbe);have Q1:=AS (show w1.heap[W.heap.size]?=M (O #[V I 0,aA false,aA false,V I 0] 45) from kA (fB (nA W (O #[V I 0,aA false,aA false,V I 0] 45))) hbe);clear hbe;have q0:w1.cell? ⟨W.heap.size,0,U⟩=M (V I 0):=cw Q1.out 0;have q1:w1.cell? ⟨W.heap.size,1,U⟩=M (aA false):=cw Q1.out 1;have q2:w1.cell? ⟨W.heap.size,2,U⟩=M (aA false):=cw Q1.out 2;have q3:w1.cell? ⟨W.heap.size,3,U⟩=M (V I 0):=cw Q1.out 3;have qz:∀ j,w1.frozen? ⟨W.heap.size,j,U⟩=false:=fun j=>jA Q1.out j)))
  all_goals
   go_wp2_with fail
   go_meet
   first
    | exact⟨_,rfl,rfl,rfl,hsz,(mA (mA (mA (mA Q1.out 0 _) 1 _) 2 _) 3 _).trans zB,(((B1.out.setCell (p:=⟨_,_,U⟩) (pA _) _).setCell (p:=⟨_,_,U⟩) (pA _) _).setCell (p:=⟨_,_,U⟩) (pA _) _).setCell (p:=⟨_,_,U⟩) (pA _) _⟩
    | exact⟨_,rfl,rfl,rfl,by have:=B1.out.size;omega,nA w1 _,eA B1.out _⟩
 case rest =>
  obtain⟨g,rfl,rfl,rfl,hg,hcut⟩:=hcut
  have CUT:=AS hcut
  clear hcut c1 hl o_0 o_1 o_2
  have C2:=AS (CX.out.below CUT.out.2)
  have XO2:=AS (kA XO.out CUT.out.2)
  have XB:=AS CUT.out.1
  have CH2:=AS (CHX.out.below CUT.out.2)
  clear CX XO CHX CUT
  cases dk
  ·have hdr:=HDR.out
   simp only[vA,if_false] at hdr
   subst hdr
   go_wp2
   go_ret2
   exact CacP.of rfl C2.out CH2.out
  ·have hdr:=HDR.out
   simp only[if_true] at hdr
   rw[use_eq] at hdr
   subst hdr
   have c1:=cw C2.out.blk 1 (v:=.map (M bt))
   have o_0:=cw XO2.out 0 (v:=V I ob)
   have o_1:=cw XO2.out 1 (v:=aA ow)
   have o_2:=cw XO2.out 2 (v:=V I ov)
   have b_0:=cw XB.out 0 (v:=V I b0_)
   have b_1:=cw XB.out 1 (v:=aA b1_)
   have b_2:=cw XB.out 2 (v:=aA b2_)
   have b_3:=cw XB.out 3 (v:=V I b3_)
   obtain⟨es,ck,hrun,hC3,hk3⟩:=(C2.out.below (iA (fA _ wc))).put ob ⟨b0_,b1_,b2_,b3_⟩
   have C3:=AS hC3
   have XO3:=AS (hk3.at_ (fB XO2.out) (notP0 (pA _)))
   have CH3:=AS (CH2.out.drew.same hk3)
   simp only[bunV] at hrun
   clear hC3 hk3
   go_upto_region 3 with fail
   go_cut [9] (fun v9 wx=>v9=V I dv/\wx=aB wc.drew bt (.map es ck))
   case first =>
    go_region
    all_goals
     go_wp2_with fail
     go_meet
     exact⟨rfl,rfl⟩
   case rest =>
    obtain⟨rfl,hw⟩:=hcut
    rw[<- hw] at C3 XO3 CH3
    clear hw hrun c1 o_0 o_1 o_2 b_0 b_1 b_2 b_3 XO2 XB CH2 C2
    have c0:=cw C3.out.blk 0 (v:=bA (M ⟨bl,0,U⟩))
    have o_0:=cw XO3.out 0 (v:=V I ob)
    have o_1:=cw XO3.out 1 (v:=aA ow)
    have o_2:=cw XO3.out 2 (v:=V I ov)
    obtain⟨Fl,hL,hstep⟩:=(C3.out.below (iA (fA _ wc))).lin
    have HU:=AS (linUse_any hL ob)
    have ST:=AS hstep
    clear hL hstep
    go_upto_region 4 with fail
    go_cut [9] (fun v9 wx=>v9=V I dv/\CacB c ⟨(rUse c s.rows ob).1,upd s.tok ob ⟨b0_,b1_,b2_,b3_⟩⟩ b bl bt (gr (fun x=>F x/\x < w.heap.size) wc.drew) wx/\Ch F w (gr (fun x=>F x/\x < w.heap.size) wc.drew) wx)
    case first =>
     go_region_with (go_at_call 143;refine HU.out.mono ?_;rintro e w3 ⟨rfl,hL3,hk3⟩;have S3:=AS (ST.out _ _ hL3 hk3);clear hL3 hk3)
     all_goals
      go_wp2_with fail
      go_meet
      exact⟨rfl,S3.out.1,CH3.out.drew.op S3.out.2⟩
    case rest =>
     obtain⟨rfl,h1,h2⟩:=hcut
     have H1:=AS h1
     have H2:=AS h2
     clear h1 h2
     go_wp2
     go_ret2
     exact CacP.of rfl H1.out H2.out
end Go.Proofs.YtiebppkhaiofeaaGreat.K
namespace Go.Proofs.YtiebppkhaiofeaaGreat.K
open Go.RowKit Go.Proofs.YtiebppkhaiofeaaGreatW.PrintWords Go.Proofs.YtiebppkhaiofeaaGreat.S
attribute [local go_sem] World.cell?_alloc_some frz_alloc
theorem tickV_ex (c:Cfg) (lf td:Int) (ov:Bool) (nu:Int) (op:S.Op):∃ a b2 o2 r,tickV c lf td ov=.tuple #[.agg #[V I a,V I b2,aA o2],V I r]/\S.Proc.tick c ⟨lf,td,ov,nu,op,true⟩=(⟨a,b2,o2,nu,op,true⟩,r):=by
 cases ov
 ·by_cases c1:1 < lf
  ·exact⟨wrap64 (lf - 1),td,false,0,by simp[tickV,c1],by simp[S.Proc.tick,c1]⟩
  ·by_cases c2:td < c.tries
   ·exact⟨max (double c.wait (wrap64 (td+1)) 1048576) 1,wrap64 (td+1),false,1,by simp[tickV,c1,c2],by simp[S.Proc.tick,c1,c2]⟩
   ·exact⟨0,td,true,2,by simp[tickV,c1,c2],by simp[S.Proc.tick,c1,c2]⟩
 ·exact⟨lf,td,true,0,by simp[tickV],by simp[S.Proc.tick]⟩
theorem ptick_any {c:Cfg} {p:S.Proc} {b:Nat} {w:cA} (hp:ProcAt c p b w) (h0:0≤c.wait) (h1:c.wait≤64):bB dA 96 #[bA (M ⟨b,0,U⟩)] w (ProcP c (V I (p.tick c).2) (p.tick c).1 b w):=by
 obtain⟨lf,td,ov,nu,⟨ob,ow,va⟩,bz⟩:=p
 unfold ProcAt at hp
 have c0:=cw hp 0 (v:=V I lf)
 have c1:=cw hp 1 (v:=V I td)
 have c2:=cw hp 2 (v:=aA ov)
 have c3:=cw hp 3 (v:=V I c.wait)
 have c4:=cw hp 4 (v:=V I c.tries)
 have c5:=cw hp 5 (v:=V I nu)
 have c6:=cw hp 6 (v:=V I ob)
 have c7:=cw hp 7 (v:=aA ow)
 have c8:=cw hp 8 (v:=V I va)
 have c9:=cw hp 9 (v:=aA bz)
 have z0:=jA hp 0
 have z1:=jA hp 1
 have z2:=jA hp 2
 have z3:=jA hp 3
 have z4:=jA hp 4
 have z5:=jA hp 5
 have z6:=jA hp 6
 have z7:=jA hp 7
 have z8:=jA hp 8
 have z9:=jA hp 9
 have HP:=AS hp
 clear hp
 cases bz
 ·go_enter Tryz.func96,Tryz.ntmps96
  go_wp2
  go_ret
  exact⟨rfl,HP.out,Keeps.refl _ _⟩
 ·obtain⟨a,b2,o2,r,ht,hs⟩:=tickV_ex c lf td ov nu ⟨ob,ow,va⟩
  rw[hs]
  have HT:=AS ht
  clear ht hs
  go_enter Tryz.func96,Tryz.ntmps96
  go_wp2_with fail
  go_region_with (go_at_call 138;refine(ttick_any c lf td ov _ h0 h1).mono ?_;rintro e w1 ⟨rfl,hbl⟩;have X1:=AS (kA (fB HP.out) hbl);have HB:=AS hbl;clear hbl;rw[HT.out];have y0:w1.cell? ⟨b,0,U⟩=M (V I lf):=cw X1.out 0;have y1:w1.cell? ⟨b,1,U⟩=M (V I td):=cw X1.out 1;have y2:w1.cell? ⟨b,2,U⟩=M (aA ov):=cw X1.out 2;have q0:=jA X1.out 0;have q1:w1.frozen? ⟨b,1,U⟩=false:=jA X1.out 1;have q2:w1.frozen? ⟨b,2,U⟩=false:=jA X1.out 2)
  all_goals
   go_wp2
   go_ret
   have hf:=mA (mA (mA X1.out 0 (V I a)) 1 (V I b2)) 2 (aA o2)
   have hk:=(((Keeps.trans (Keeps.drew (Keeps.refl [b] w)) (Keeps.below [] HB.out) zB).set (g:=b) (.inl zB) 0 (V I a)).set (g:=b) (.inl zB) 1 (V I b2)).set (g:=b) (.inl zB) 2 (aA o2)
   refine⟨rfl,?_,?_⟩
   ·simp only[ProcAt]
    refine Eq.trans hf ?_
    simp[procC]
   ·with_reducible exact hk
end Go.Proofs.YtiebppkhaiofeaaGreat.K
namespace Go.Proofs.YtiebppkhaiofeaaGreat.K
open Go.RowKit Go.Proofs.YtiebppkhaiofeaaGreatW.PrintWords Go.Proofs.YtiebppkhaiofeaaGreat.S
open Go.ChangeMaps Go.MapKept
structure NPtr where
 b:Nat
 bc:Nat
 bl:Nat
 bct:Nat
 bt:Nat
 bp:Nat
 ba:Nat
 bo:Nat
 q:Nat
def nodeC (c:Cfg) (n:S.Node) (p:NPtr):Array Value:=#[V I c.nodes,V I c.blocks,V I c.tokens,V I c.sets,V I c.ways,V I c.cap,V I c.wait,V I c.tries,V I c.policy,
 V I n.id,bA (M ⟨p.bc,0,U⟩),bA (M ⟨p.bt,0,U⟩),bA (M ⟨p.bp,0,U⟩),.map (M p.ba),.map (M p.bo)]
def MapB (g:Int->Bool) (b:Nat) (w:cA):Prop:=∃ es ck f,w.heap[b]?=M (.map es ck)/\IM es ck f/\∀ k,(f k).getD (aA false)=aA (g k)
def MapI (g:Int->Int) (b:Nat) (w:cA):Prop:=∃ es ck f,w.heap[b]?=M (.map es ck)/\IM es ck f/\∀ k,(f k).getD (V I 0)=V I (g k)
def NodeK (c:Cfg) (n:S.Node) (p:NPtr) (K:Nat->Nat) (w:cA):Prop :=
 w.heap[p.b]?=M (O (nodeC c n p) 133 (0,0))/\K p.b=0/\CacB c n.lines p.bc p.bl p.bct (fun x=>K x=1) w/\TabAt n.know p.bt (fun x=>K x=2) w/\ProcAt c n.cpu p.bp w/\K p.bp=3/\MapB n.asked p.ba w/\K p.ba=4/\MapI n.told p.bo w/\K p.bo=5
def OutK (o:S.Out) (q:Nat) (K:Nat->Nat) (w:cA):Prop :=
 ∃ vl vd,w.heap[q]?=M (O #[vl,vd] 138 (0,0))/\OwnE letE vl o.letters w/\OwnE doneE vd o.done w/\q∉foot vl/\q∉foot vd/\(∀ x∈foot vl,x∉foot vd)/\K q=6/\(∀ x∈foot vl,K x=6)/\(∀ x∈foot vd,K x=6)
def rec_ (K:Nat->Nat) (w:cA) (k:Nat):Nat->Nat:=fun x=>if x < w.heap.size then K x else k
theorem rec_old {K:Nat->Nat} {w:cA} {k x:Nat} (h:x < w.heap.size):rec_ K w k x=K x:=if_pos h
theorem rec_new {K:Nat->Nat} {w:cA} {k x:Nat} (h:w.heap.size≤x):rec_ K w k x=k:=if_neg vB
section
variable {c:Cfg} {n:S.Node} {o:S.Out} {p:NPtr} {K K':Nat->Nat} {w w':cA} {G:Set_} {q:Nat}
theorem MapB.keep {g:Int->Bool} {b:Nat} (h:MapB g b w) (hk:KS G w w') (hb:¬ G b):MapB g b w':=by
 obtain⟨es,ck,f,h1,h2⟩:=h
 exact⟨es,ck,f,hk.at_ h1 hb,h2⟩
theorem MapI.keep {g:Int->Int} {b:Nat} (h:MapI g b w) (hk:KS G w w') (hb:¬ G b):MapI g b w':=by
 obtain⟨es,ck,f,h1,h2⟩:=h
 exact⟨es,ck,f,hk.at_ h1 hb,h2⟩
theorem MapB.lt {g:Int->Bool} {b:Nat} (h:MapB g b w):b < w.heap.size:=by obtain⟨es,ck,f,h1,h2⟩:=h;exact eB h1
theorem MapI.lt {g:Int->Int} {b:Nat} (h:MapI g b w):b < w.heap.size:=by obtain⟨es,ck,f,h1,h2⟩:=h;exact eB h1
theorem NodeK.keep (h:NodeK c n p K w) (hk:KS G w w') (hs:∀ x,x < w.heap.size->K x≤5->K' x=K x/\¬ G x):NodeK c n p K' w':=by
 obtain⟨h1,h2,h3,h4,h5,h6,h7,h8,h9,h10⟩:=h
 have e1:=hs p.b (eB h1) vB
 have e2:=hs p.bp (eB h5) vB
 have e3:=hs p.ba h7.lt vB
 have e4:=hs p.bo h9.lt vB
 refine⟨hk.at_ h1 e1.2,by rw[e1.1];exact h2,h3.keep hk (fun x hx hF=>?_),h4.keep hk (fun x hx hF=>?_),hk.at_ h5 e2.2,by rw[e2.1];exact h6,h7.keep hk e3.2,by rw[e3.1];exact h8,h9.keep hk e4.2,by rw[e4.1];exact h10⟩
 ·have hF':K x=1:=hF
  have:=hs x hx vB
  exact⟨by show K' x=1;omega,this.2⟩
 ·have hF':K x=2:=hF
  have:=hs x hx vB
  exact⟨by show K' x=2;omega,this.2⟩
theorem OutK.keep (h:OutK o q K w) (hk:KS G w w') (hs:∀ x,x < w.heap.size->K x=6->K' x=6/\¬ G x):OutK o q K' w':=by
 obtain⟨vl,vd,h1,h2,h3,h4,h5,h6,h7,h8,h9⟩:=h
 exact⟨vl,vd,hk.at_ h1 (hs q (eB h1) h7).2,h2.ks hk (fun x hx=>(hs x (h2.lt x hx) (h8 x hx)).2),h3.ks hk (fun x hx=>(hs x (h3.lt x hx) (h9 x hx)).2),h4,h5,h6,(hs q (eB h1) h7).1,fun x hx=>(hs x (h2.lt x hx) (h8 x hx)).1,fun x hx=>(hs x (h3.lt x hx) (h9 x hx)).1⟩
end
def NO (c:Cfg) (n:S.Node) (o:S.Out) (p:NPtr) (K:Nat->Nat) (w:cA):Prop:=NodeK c n p K w/\OutK o p.q K w
def NOP (v:Value) (c:Cfg) (n:S.Node) (o:S.Out) (p:NPtr) (K:Nat->Nat) (w:cA) (e:Ending) (w':cA):Prop:=e=.returned v/\∃ K',(∀ x,x < w.heap.size->K' x=K x)/\NO c n o p K' w'/\KS (fun x=>K x≤6) w w'
section
variable {c:Cfg} {n:S.Node} {o:S.Out} {p:NPtr} {K K':Nat->Nat} {w w' W:cA} {G:Set_}
theorem NO.below (h:NO c n o p K w) (hb:Below w.heap.size w w') (k:Nat):NO c n o p (rec_ K w k) w':=⟨h.1.keep (pB (fun _=>False) hb) (fun x hx _=>⟨rec_old hx,id⟩),h.2.keep (pB (fun _=>False) hb) (fun x hx hk=>⟨by rw[rec_old hx];exact hk,id⟩)⟩
theorem NO.cache (h:NO c n o p K w) {s:Cache} (hC:CacB c s p.bc p.bl p.bct (gr (fun x=>K x=1) w) w') (hk:KS (fun x=>K x=1) w w'):NO c { n with lines:=s } o p (rec_ K w 1) w':=by
 obtain⟨⟨h1,h2,h3,h4,h5,h6,h7,h8,h9,h10⟩,ho⟩:=h
 have e1:=rec_old (K:=K) (k:=1) (eB h1)
 have e2:=rec_old (K:=K) (k:=1) (eB h5)
 have e3:=rec_old (K:=K) (k:=1) h7.lt
 have e4:=rec_old (K:=K) (k:=1) h9.lt
 refine⟨⟨hk.at_ h1 (by show ¬ _=_;omega),vB,hC.sub (fun x hx hF=>?_),h4.keep hk (fun x hx hF=>?_),hk.at_ h5 (by show ¬ _=_;omega),vB,h7.keep hk (by show ¬ _=_;omega),vB,h9.keep hk (by show ¬ _=_;omega),vB⟩,ho.keep hk (fun x hx hF=>⟨by rw[rec_old hx];exact hF,by show ¬ _=_;omega⟩)⟩
 ·show rec_ K w 1 x=1
  rcases hF with hF | hF
  ·by_cases hl:x < w.heap.size
   ·rw[rec_old hl];exact hF
   ·rw[rec_new vB]
  ·exact rec_new hF
 ·have hF':K x=2:=hF
  exact⟨by show rec_ K w 1 x=2;rw[rec_old hx];exact hF',by show ¬ _=_;omega⟩
theorem NO.table (h:NO c n o p K w) {t:Table} (hT:TabAt t p.bt (gr (fun x=>K x=2) w) w') (hk:KS (fun x=>K x=2) w w'):NO c { n with know:=t } o p (rec_ K w 2) w':=by
 obtain⟨⟨h1,h2,h3,h4,h5,h6,h7,h8,h9,h10⟩,ho⟩:=h
 have e1:=rec_old (K:=K) (k:=2) (eB h1)
 have e2:=rec_old (K:=K) (k:=2) (eB h5)
 have e3:=rec_old (K:=K) (k:=2) h7.lt
 have e4:=rec_old (K:=K) (k:=2) h9.lt
 refine⟨⟨hk.at_ h1 (by show ¬ _=_;omega),vB,h3.keep hk (fun x hx hF=>?_),hT.keep (qB (fun _=>False) w') (fun x hx hF=>⟨?_,id⟩),hk.at_ h5 (by show ¬ _=_;omega),vB,h7.keep hk (by show ¬ _=_;omega),vB,h9.keep hk (by show ¬ _=_;omega),vB⟩,ho.keep hk (fun x hx hF=>⟨by rw[rec_old hx];exact hF,by show ¬ _=_;omega⟩)⟩
 ·have hF':K x=1:=hF
  exact⟨by show rec_ K w 2 x=1;rw[rec_old hx];exact hF',by show ¬ _=_;omega⟩
 ·show rec_ K w 2 x=2
  rcases hF with hF | hF
  ·by_cases hl:x < w.heap.size
   ·rw[rec_old hl];exact hF
   ·rw[rec_new vB]
  ·exact rec_new hF
theorem NO.proc (h:NO c n o p K w) {pr:S.Proc} (hP:ProcAt c pr p.bp w') (hk:Keeps [p.bp] w w'):NO c { n with cpu:=pr } o p (rec_ K w 7) w':=by
 obtain⟨⟨h1,h2,h3,h4,h5,h6,h7,h8,h9,h10⟩,ho⟩:=h
 have hk':KS (fun x=>x=p.bp) w w':=KS.ofKeeps hk zB
 have e1:=rec_old (K:=K) (k:=7) (eB h1)
 have e2:=rec_old (K:=K) (k:=7) (eB h5)
 have e3:=rec_old (K:=K) (k:=7) h7.lt
 have e4:=rec_old (K:=K) (k:=7) h9.lt
 have ne:∀ x,K x≠3->x≠p.bp:=fun x hx e=>hx (by rw[e];exact h6)
 refine⟨⟨hk'.at_ h1 (ne _ vB),vB,h3.keep hk' (fun x hx hF=>?_),h4.keep hk' (fun x hx hF=>?_),hP,vB,h7.keep hk' (ne _ vB),vB,h9.keep hk' (ne _ vB),vB⟩,ho.keep hk' (fun x hx hF=>⟨by rw[rec_old hx];exact hF,ne _ vB⟩)⟩
 ·have hF':K x=1:=hF
  exact⟨by show rec_ K w 7 x=1;rw[rec_old hx];exact hF',ne _ vB⟩
 ·have hF':K x=2:=hF
  exact⟨by show rec_ K w 7 x=2;rw[rec_old hx];exact hF',ne _ vB⟩
theorem NO.maps (h:NO c n o p K w) {b:Nat} {ob:Obj} (hb:b=p.ba∨b=p.bo) {f:Int->Bool} {g:Int->Int} (h1':MapB f p.ba (aB w b ob)) (h2':MapI g p.bo (aB w b ob)):NO c { n with asked:=f,told:=g } o p K (aB w b ob):=by
 obtain⟨⟨h1,h2,h3,h4,h5,h6,h7,h8,h9,h10⟩,ho⟩:=h
 have hk:KS (fun x=>x=b) w (aB w b ob):=(qB (fun x=>x=b) w).block (.inl rfl) _
 have hKb:K b=4∨K b=5:=by rcases hb with rfl | rfl;exact .inl h8;exact .inr h10
 have ne:∀ x,K x≠4->K x≠5->x≠b:=fun x hx hy e=>by rw[e] at hx hy;rcases hKb with h | h;exact hx h;exact hy h
 exact⟨⟨hk.at_ h1 (ne _ vB vB),h2,h3.keep hk (fun x hx hF=>⟨hF,ne _ (by have hF':K x=1:=hF;omega) (by have hF':K x=1:=hF;omega)⟩),h4.keep hk (fun x hx hF=>⟨hF,ne _ (by have hF':K x=2:=hF;omega) (by have hF':K x=2:=hF;omega)⟩),hk.at_ h5 (ne _ vB vB),h6,h1',h8,h2',h10⟩,ho.keep hk (fun x hx hF=>⟨hF,ne _ vB vB⟩)⟩
theorem NOP.of {v v':Value} (hv:v'=v) (hK:∀ x,x < w.heap.size->K' x=K x) (hN:NO c n o p K' W) (hk:KS (fun x=>K x≤6) w W):NOP v c n o p K w (.returned v') W:=⟨by rw[hv],K',hK,hN,hk⟩
end
end Go.Proofs.YtiebppkhaiofeaaGreat.K
namespace Go.Proofs.YtiebppkhaiofeaaGreat.K
open Go.RowKit Go.Proofs.YtiebppkhaiofeaaGreatW.PrintWords Go.Proofs.YtiebppkhaiofeaaGreat.S
attribute [local go_sem] World.cell?_alloc_some
open Go.ChangeMaps Go.MapKept
theorem NodeK.lt {c:Cfg} {n:S.Node} {p:NPtr} {K:Nat->Nat} {w:cA} (h:NodeK c n p K w):p.b < w.heap.size:=eB h.1
theorem own_eq (n:S.Node) (b:Int):(n.own b).isSome=((n.know.act b).isSome && decide ((Table.actOf n.know b).node=n.id)):=by
 unfold Node.own Table.actOf
 cases n.know.act b with
 | none=>rfl
 | some a=>by_cases h:a.node=n.id <;> simp[h]
theorem own_some_ {n:S.Node} {b:Int} (h:(n.own b).isSome=true):n.own b=M (Table.actOf n.know b):=by
 unfold Node.own Table.actOf at *
 cases h':n.know.act b with
 | none=>rw[h'] at h;simp at h
 | some a =>
  rw[h'] at h
  by_cases h2:a.node=n.id
  ·simp[h2]
  ·simp[h2] at h
theorem other_eq (n:S.Node) (b:Int):(n.other b).isSome=((n.know.act b).isSome && decide ((Table.actOf n.know b).node≠n.id)):=by
 unfold Node.other Table.actOf
 cases n.know.act b with
 | none=>rfl
 | some a=>by_cases h:a.node=n.id <;> simp[h]
theorem other_some_ {n:S.Node} {b:Int} (h:(n.other b).isSome=true):n.other b=M (Table.actOf n.know b).node:=by
 unfold Node.other Table.actOf at *
 cases h':n.know.act b with
 | none=>rw[h'] at h;simp at h
 | some a =>
  rw[h'] at h
  by_cases h2:a.node=n.id
  ·simp[h2] at h
  ·simp[h2]
theorem nodeHome_any {c:Cfg} {n:S.Node} {p:NPtr} {K:Nat->Nat} {w:cA} (hN:NodeK c n p K w) (k b s:Int):bB dA 98 #[bA (M ⟨p.b,0,U⟩),V I k,V I b,V I s] w (RV (letV (n.home c k b s)) w):=by
 have h1:=hN.1
 have hlt:=eB h1
 clear hN
 have X:=AS (lA h1 (O #[V I 0,V I 0,V I 0,V I 0,V I 0,V I 0,aA false,V I 0,aA false,aA false,V I 0] 47))
 have Y:=AS (nA w (O #[V I 0,V I 0,V I 0,V I 0,V I 0,V I 0,aA false,V I 0,aA false,aA false,V I 0] 47))
 have B:=AS (eA (fA w.heap.size w) (O #[V I 0,V I 0,V I 0,V I 0,V I 0,V I 0,aA false,V I 0,aA false,aA false,V I 0] 47))
 show bB dA 98 _ w (RV (.agg #[V I k,V I n.id,V I c.nodes,V I b,V I s,V I 0,aA false,V I 0,aA false,aA false,V I 0]) w)
 generalize p.b=pb at *
 go_enter Tryz.func98,Tryz.ntmps98
 go_upto_region 1 with fail
 generalize w.alloc (O #[V I 0,V I 0,V I 0,V I 0,V I 0,V I 0,aA false,V I 0,aA false,aA false,V I 0] 47)=W at X Y B ⊢
 have c0:=cw X.out 0 (v:=V I c.nodes)
 have c9:=cw X.out 9 (v:=V I n.id)
 have hs:=eB Y.out
 have KK:=AS (show ∀ x,Below w.heap.size W x->Below w.heap.size w x from fun x hx=>B.out.trans hx)
 have y0:=cw Y.out 0 (v:=V I 0)
 have y1:=cw Y.out 1 (v:=V I 0)
 have y2:=cw Y.out 2 (v:=V I 0)
 have y3:=cw Y.out 3 (v:=V I 0)
 have y4:=cw Y.out 4 (v:=V I 0)
 have y5:=cw Y.out 5 (v:=V I 0)
 have y6:=cw Y.out 6 (v:=aA false)
 have y7:=cw Y.out 7 (v:=V I 0)
 have y8:=cw Y.out 8 (v:=aA false)
 have y9:=cw Y.out 9 (v:=aA false)
 have y10:=cw Y.out 10 (v:=V I 0)
 have z0:=jA Y.out 0
 have z1:=jA Y.out 1
 have z2:=jA Y.out 2
 have z3:=jA Y.out 3
 have z4:=jA Y.out 4
 have z5:=jA Y.out 5
 have z6:=jA Y.out 6
 have z7:=jA Y.out 7
 have z8:=jA Y.out 8
 have z9:=jA Y.out 9
 have z10:=jA Y.out 10
 go_cut [8] (fun v8 wx=>v8=bA (M ⟨w.heap.size,0,U⟩)/\wx.heap[w.heap.size]?=M (O #[V I k,V I n.id,V I c.nodes,V I b,V I s,V I 0,aA false,V I 0,aA false,aA false,V I 0] 47)/\Below w.heap.size w wx)
 case first =>
  go_region
  all_goals
   go_wp2_with fail
   go_meet
   have q0:=Y.out
   have q1:=mA q0 0 (V I k)
   have q2:=mA q1 1 (V I n.id)
   have q3:=mA q2 2 (V I c.nodes)
   have q4:=mA q3 3 (V I b)
   have q5:=mA q4 4 (V I s)
   have q6:=mA q5 5 (V I 0)
   have q7:=mA q6 6 (aA false)
   have q8:=mA q7 7 (V I 0)
   have q9:=mA q8 8 (aA false)
   have q10:=mA q9 9 (aA false)
   have q11:=mA q10 10 (V I 0)
   refine⟨rfl,(fB q11).trans zB,?_⟩
   exact iA (by repeat (first | with_reducible exact B.out | with_reducible refine oA ?_ (by dsimp only;omega) _))
 case rest =>
  obtain⟨rfl,hcut,hb⟩:=hcut
  clear y0 y1 y2 y3 y4 y5 y6 y7 y8 y9 y10 z0 z1 z2 z3 z4 z5 z6 z7 z8 z9 z10 c0 c9 X Y B
  have HB:=AS hb
  clear hb
  have y0:=cw hcut 0 (v:=V I k)
  have y1:=cw hcut 1 (v:=V I n.id)
  have y2:=cw hcut 2 (v:=V I c.nodes)
  have y3:=cw hcut 3 (v:=V I b)
  have y4:=cw hcut 4 (v:=V I s)
  have y5:=cw hcut 5 (v:=V I 0)
  have y6:=cw hcut 6 (v:=aA false)
  have y7:=cw hcut 7 (v:=V I 0)
  have y8:=cw hcut 8 (v:=aA false)
  have y9:=cw hcut 9 (v:=aA false)
  have y10:=cw hcut 10 (v:=V I 0)
  clear hcut
  go_wp2
  exact yA (v:=.agg #[V I k,V I n.id,V I c.nodes,V I b,V I s,V I 0,aA false,V I 0,aA false,aA false,V I 0]) (by simp[results,Tryz.results98,go_sem,y0,y1,y2,y3,y4,y5,y6,y7,y8,y9,y10]) rfl ⟨rfl,HB.out⟩
theorem outSend_any {o:S.Out} {q:Nat} {K:Nat->Nat} {w:cA} (hO:OutK o q K w) (hl:o.letters.length≤1000000000000) (l:Let):bB dA 97 #[bA (M ⟨q,0,U⟩),letV l] w (fun e w'=>e=.returned (.tuple #[])/\OutK (o.send l) q (rec_ K w 6) w'/\KS (fun x=>K x=6) w w'):=by
 obtain⟨vl,vd,h1,h2,h3,h4,h5,h6,h7,h8,h9⟩:=hO
 obtain⟨A,cp,hv,-⟩:=h2.row
 have hq:=eB h1
 have hl2:=h2.lt
 have hl3:=h3.lt
 obtain⟨k,f,t,b,qq,wh,wr,⟨c,oo,h,d⟩⟩:=l
 have FIN:=AS (show ∀ w1 v',KS (fun x=>x∈foot vl) w w1->OwnE letE v' (o.letters ++ [⟨k,f,t,b,qq,wh,wr,⟨c,oo,h,d⟩⟩]) w1->(∀ x∈foot v',x∈foot vl∨w.heap.size≤x)->(OutK (o.send ⟨k,f,t,b,qq,wh,wr,⟨c,oo,h,d⟩⟩) q (rec_ K w 6) (w1.setCell ⟨q,0,U⟩ v')/\KS (fun x=>K x=6) w (w1.setCell ⟨q,0,U⟩ v')) from by
  intro w1 v' hk hO hf
  have hq6:rec_ K w 6 q=6:=(rec_old hq).trans h7
  have hv6:∀ x∈foot v',rec_ K w 6 x=6:=fun x hx=>by
   rcases hf x hx with h | h
   ·rw[rec_old (hl2 x h)];exact h8 x h
   ·exact rec_new h
  have hqv:q∉foot v':=fun hx=>by rcases hf q hx with h | h;exact h4 h;omega
  have hk2:=KS.set (qB (fun x=>x=q) w1) (.inl rfl) 0 v' (g:=q)
  refine⟨⟨v',vd,(mA (hk.at_ h1 h4) 0 v').trans zB,hO.ks hk2 (fun x hx e=>hqv (e ▸ hx)),(h3.ks hk (fun x hx e=>h6 x e hx)).ks hk2 (fun x hx e=>h5 (e ▸ hx)),hqv,h5,fun x hx hd=>?_,hq6,hv6,fun x hx=>by rw[rec_old (hl3 x hx)];exact h9 x hx⟩,(hk.mono (fun x _ hx=>h8 x hx)).trans hk2 (fun x _ e=>by rw[e];exact h7)⟩
  rcases hf x hx with h | h
  ·exact h6 x h hd
  ·have:=hl3 x hd;omega)
 have OA:=AS (show OwnE letE vl o.letters (((w.alloc (O #[V I k,V I f,V I t,V I b,V I qq,V I wh,aA wr,V I c,aA oo,aA h,V I d] 47)).drew).alloc (O #[V I k,V I f,V I t,V I b,V I qq,V I wh,aA wr,V I c,aA oo,aA h,V I d] 47)) from h2.ks (pB (fun _=>False) (eA (iA (eA (fA _ _) _)) _)) (fun _ _=>id))
 have RA:=AS (show RowE letE (((w.alloc (O #[V I k,V I f,V I t,V I b,V I qq,V I wh,aA wr,V I c,aA oo,aA h,V I d] 47)).alloc (O #[V I k,V I f,V I t,V I b,V I qq,V I wh,aA wr,V I c,aA oo,aA h,V I d] 47)).drew) (M ⟨w.heap.size+1,0,U⟩) [⟨k,f,t,b,qq,wh,wr,⟨c,oo,h,d⟩⟩] from by
  have hsz:(w.alloc (O #[V I k,V I f,V I t,V I b,V I qq,V I wh,aA wr,V I c,aA oo,aA h,V I d] 47)).heap.size=w.heap.size+1:=by simp
  rw[<- hsz]
  exact rowE_one (E:=letE) (x:=⟨k,f,t,b,qq,wh,wr,⟨c,oo,h,d⟩⟩) (fB (nA (w.alloc (O #[V I k,V I f,V I t,V I b,V I qq,V I wh,aA wr,V I c,aA oo,aA h,V I d] 47)) (O #[V I k,V I f,V I t,V I b,V I qq,V I wh,aA wr,V I c,aA oo,aA h,V I d] 47))))
 have HL:=AS hl
 have X:=AS (qA (lA h1 (O #[V I k,V I f,V I t,V I b,V I qq,V I wh,aA wr,V I c,aA oo,aA h,V I d] 47)) (qA h1 h4))
 have Y:=AS (nA w (O #[V I k,V I f,V I t,V I b,V I qq,V I wh,aA wr,V I c,aA oo,aA h,V I d] 47))
 clear h2 h3 h5 h6 h7 h8 h9 hl h1 h4
 subst hv
 show bB dA 97 #[bA (M ⟨q,0,U⟩),.agg #[V I k,V I f,V I t,V I b,V I qq,V I wh,aA wr,V I c,aA oo,aA h,V I d]] w _
 go_enter Tryz.func97,Tryz.ntmps97
 go_upto_region 1 with fail
 have c0:=cw X.out.1 0 (v:=J A o.letters.length cp)
 have l0:=cw Y.out 0 (v:=V I k)
 have l1:=cw Y.out 1 (v:=V I f)
 have l2:=cw Y.out 2 (v:=V I t)
 have l3:=cw Y.out 3 (v:=V I b)
 have l4:=cw Y.out 4 (v:=V I qq)
 have l5:=cw Y.out 5 (v:=V I wh)
 have l6:=cw Y.out 6 (v:=aA wr)
 have l7:=cw Y.out 7 (v:=V I c)
 have l8:=cw Y.out 8 (v:=aA oo)
 have l9:=cw Y.out 9 (v:=aA h)
 have l10:=cw Y.out 10 (v:=V I d)
 go_region_law (first | (refine step_appE (E:=letE) (xs:=o.letters) (ys:=[⟨k,f,t,b,qq,wh,wr,⟨c,oo,h,d⟩⟩]) xB _ _ rfl rfl rfl rfl (by exact OA.out) (by exact RA.out) (by have:=HL.out;show _ * 80≤_;simp;omega) ?_;intro v1 w1 hO hK hf;have KK:=AS (show KS (fun x=>x∈foot (J A o.letters.length cp)) w w1 from(pB _ (eA (iA (eA (fA _ _) (O #[V I k,V I f,V I t,V I b,V I qq,V I wh,aA wr,V I c,aA oo,aA h,V I d] 47))) (O #[V I k,V I f,V I t,V I b,V I qq,V I wh,aA wr,V I c,aA oo,aA h,V I d] 47))).trans (KS.keeps hK) (fun _ _ h=>h));have hfin:=FIN.out w1 v1 KK.out hO (by intro x hx;rcases hf with e | e;exact .inl (by rw[e] at hx;exact hx);exact .inr (by rw[e] at hx;simp[World.drew] at hx;omega));have FI:=AS hfin;have Y1:=AS (KK.out.at_ X.out.2.1 X.out.2.2);obtain⟨A1,n1,k1,rfl⟩:∃ A n c,v1=J A n c:=(by obtain⟨A,c,h,_⟩:=OwnE.row hO;exact⟨_,_,_,h⟩);clear hfin hO hK hf;have y2:=jA Y1.out 0;have y3:w1.cell? ⟨q,0,U⟩=M (J A o.letters.length cp):=cw Y1.out 0))
 all_goals
  go_wp2
  go_end0
  exact⟨rfl,FI.out⟩
theorem nodeOwn_any {c:Cfg} {n:S.Node} {p:NPtr} {K:Nat->Nat} {w:cA} (hN:NodeK c n p K w) (b:Int):bB dA 133 #[bA (M ⟨p.b,0,U⟩),V I b] w (RV (.tuple #[actV (Table.actOf n.know b),aA (n.own b).isSome]) w):=by
 obtain⟨h1,h2,h3,h4,h5,h6,h7,h8,h9,h10⟩:=hN
 have hlt:=eB h1
 have X:=AS (lA h1 (O #[V I 0,V I 0,V I 0] 55))
 have Y:=AS (nA w (O #[V I 0,V I 0,V I 0] 55))
 have B:=AS (eA (fA w.heap.size w) (O #[V I 0,V I 0,V I 0] 55))
 have TA:=AS (tabActive_any (h4.keep (pB (fun _=>False) (eA (fA w.heap.size w) (O #[V I 0,V I 0,V I 0] 55))) (fun x hx hF=>⟨hF,id⟩)) b)
 rw[own_eq]
 generalize (n.know.act b).isSome=ok at *
 generalize Table.actOf n.know b=act at *
 obtain⟨a0,a1,a2⟩:=act
 show bB dA 133 _ w (RV (.tuple #[.agg #[V I a0,V I a1,V I a2],aA (ok && decide (a1=n.id))]) w)
 have hav:actV ⟨a0,a1,a2⟩=.agg #[V I a0,V I a1,V I a2]:=rfl
 rw[hav] at TA
 have CE:=AS (show ∀ W':cA,W'.heap[p.b]?=M (O (nodeC c n p) 133 (0,0))->W'.cell? ⟨p.b,9,U⟩=M (V I n.id)/\W'.cell? ⟨p.b,11,U⟩=M (bA (M ⟨p.bt,0,U⟩)) from fun W' h=>⟨cw h 9,cw h 11⟩)
 clear hav h1 h2 h3 h4 h5 h6 h7 h8 h9 h10
 generalize nodeC c n p=NC at *
 generalize p.b=pb at *
 generalize p.bt=bt at *
 generalize n.id=id_ at *
 go_enter Tryz.func133,Tryz.ntmps133
 go_upto_region 1 with fail
 generalize w.alloc (O #[V I 0,V I 0,V I 0] 55)=W at X Y B TA ⊢
 have c0:W.cell? ⟨pb,11,U⟩=M (bA (M ⟨bt,0,U⟩)):=(CE.out _ X.out).2
 go_wp2_with fail
 refine TA.out.mono ?_
 rintro e w2 ⟨rfl,hb2⟩
 have HW:=eB Y.out
 have hs2:=hb2.size
 have X2:=AS (kA X.out hb2)
 have Y2:=AS (kA Y.out hb2)
 have B2:=AS (B.out.trans (show Below w.heap.size W w2 from hb2.mono vB))
 clear hb2 c0 X Y B TA
 go_upto_region 2 with fail
 have NB:=AS (nA w2 (O #[V I a0,V I a1,V I a2] 55))
 have XB:=AS (lA X2.out (O #[V I a0,V I a1,V I a2] 55))
 have YB:=AS (lA Y2.out (O #[V I a0,V I a1,V I a2] 55))
 have BB:=AS (eA B2.out (O #[V I a0,V I a1,V I a2] 55))
 have hv2:=eB Y2.out
 have hx2:=eB X2.out
 clear X2 Y2 B2
 generalize hg:w2.heap.size=g at *
 generalize w2.alloc (O #[V I a0,V I a1,V I a2] 55)=W3 at NB XB YB BB ⊢
 have c9:W3.cell? ⟨pb,9,U⟩=M (V I id_):=(CE.out _ XB.out).1
 have a_0:=cw NB.out 0 (v:=V I a0)
 have a_1:=cw NB.out 1 (v:=V I a1)
 have a_2:=cw NB.out 2 (v:=V I a2)
 have y0:=cw YB.out 0 (v:=V I 0)
 have y1:=cw YB.out 1 (v:=V I 0)
 have y2:=cw YB.out 2 (v:=V I 0)
 have z0:=jA YB.out 0
 have z1:=jA YB.out 1
 have z2:=jA YB.out 2
 go_cut [4,5] (fun v4 v5 wx=>v4=bA (M ⟨w.heap.size,0,U⟩)/\v5=aA (ok && decide (a1=id_))/\wx.heap[w.heap.size]?=M (O #[V I a0,V I a1,V I a2] 55)/\Below w.heap.size w wx)
 case first =>
  have DR:=AS (show ok=ok from rfl)
  cases ok
  all_goals
   go_region
   all_goals
    go_wp2_with fail
    go_meet
    have q0:=YB.out
    have q1:=mA q0 0 (V I a0)
    have q2:=mA q1 1 (V I a1)
    have q3:=mA q2 2 (V I a2)
    refine⟨rfl,?_,(fB q3).trans zB,?_⟩
    ·first | rfl | simp[go_sem] | (simp[eq_comm,go_sem])
    ·exact iA (by repeat (first | with_reducible exact BB.out | with_reducible refine oA ?_ (by dsimp only;omega) _))
 case rest =>
  obtain⟨rfl,rfl,hcut,hb⟩:=hcut
  have HB:=AS hb
  clear hb a_0 a_1 a_2 y0 y1 y2 z0 z1 z2 c9 NB XB YB BB
  have y0:=cw hcut 0 (v:=V I a0)
  have y1:=cw hcut 1 (v:=V I a1)
  have y2:=cw hcut 2 (v:=V I a2)
  clear hcut
  go_wp2
  exact yA (v:=.tuple #[.agg #[V I a0,V I a1,V I a2],aA (ok && decide (a1=id_))]) (by simp[results,Tryz.results133,go_sem,y0,y1,y2]) rfl ⟨rfl,HB.out⟩
theorem nodeOther_any {c:Cfg} {n:S.Node} {p:NPtr} {K:Nat->Nat} {w:cA} (hN:NodeK c n p K w) (b:Int):bB dA 129 #[bA (M ⟨p.b,0,U⟩),V I b] w (RV (.tuple #[V I (Table.actOf n.know b).node,aA (n.other b).isSome]) w):=by
 obtain⟨h1,h2,h3,h4,h5,h6,h7,h8,h9,h10⟩:=hN
 have hlt:=eB h1
 have X:=AS h1
 have TA:=AS (tabActive_any h4 b)
 rw[other_eq]
 generalize (n.know.act b).isSome=ok at *
 generalize Table.actOf n.know b=act at *
 obtain⟨a0,a1,a2⟩:=act
 show bB dA 129 _ w (RV (.tuple #[V I a1,aA (ok && decide (a1≠n.id))]) w)
 have hav:actV ⟨a0,a1,a2⟩=.agg #[V I a0,V I a1,V I a2]:=rfl
 rw[hav] at TA
 have CE:=AS (show ∀ W':cA,W'.heap[p.b]?=M (O (nodeC c n p) 133 (0,0))->W'.cell? ⟨p.b,9,U⟩=M (V I n.id)/\W'.cell? ⟨p.b,11,U⟩=M (bA (M ⟨p.bt,0,U⟩)) from fun W' h=>⟨cw h 9,cw h 11⟩)
 clear hav h1 h2 h3 h4 h5 h6 h7 h8 h9 h10
 generalize nodeC c n p=NC at *
 generalize p.b=pb at *
 generalize p.bt=bt at *
 generalize n.id=id_ at *
 have c0:w.cell? ⟨pb,11,U⟩=M (bA (M ⟨bt,0,U⟩)):=(CE.out _ X.out).2
 go_enter Tryz.func129,Tryz.ntmps129
 go_wp2_with fail
 refine TA.out.mono ?_
 rintro e w2 ⟨rfl,hb2⟩
 have hs2:=hb2.size
 have X2:=AS (kA X.out hb2)
 have B2:=AS hb2
 clear hb2 c0 X TA
 go_upto_region 2 with fail
 have NB:=AS (nA w2 (O #[V I a0,V I a1,V I a2] 55))
 have XB:=AS (lA X2.out (O #[V I a0,V I a1,V I a2] 55))
 have BB:=AS (eA B2.out (O #[V I a0,V I a1,V I a2] 55))
 clear X2 B2
 generalize hg:w2.heap.size=g at *
 generalize w2.alloc (O #[V I a0,V I a1,V I a2] 55)=W3 at NB XB BB ⊢
 have c9:W3.cell? ⟨pb,9,U⟩=M (V I id_):=(CE.out _ XB.out).1
 have a_0:=cw NB.out 0 (v:=V I a0)
 have a_1:=cw NB.out 1 (v:=V I a1)
 have a_2:=cw NB.out 2 (v:=V I a2)
 go_cut [4,5] (fun v4 v5 wx=>v4=V I a1/\v5=aA (ok && decide (a1≠id_))/\Below w.heap.size w wx)
 case first =>
  cases ok
  all_goals
   go_region
   all_goals
    go_wp2_with fail
    go_meet
    refine⟨rfl,?_,iA BB.out⟩
    first | rfl | (simp[go_sem];done) | (simp[eq_comm,go_sem];done) | (by_cases he:a1=id_ <;> simp[he,bne,go_sem])
 case rest =>
  obtain⟨rfl,rfl,hb⟩:=hcut
  have HB:=AS hb
  clear hb
  go_wp2
  exact yA (v:=.tuple #[V I a1,aA (ok && decide (a1≠id_))]) (by simp[results,Tryz.results129,go_sem]) rfl ⟨rfl,HB.out⟩
end Go.Proofs.YtiebppkhaiofeaaGreat.K
namespace Go.Proofs.YtiebppkhaiofeaaGreat.K
open Go.RowKit Go.Proofs.YtiebppkhaiofeaaGreatW.PrintWords Go.Proofs.YtiebppkhaiofeaaGreat.S
theorem config_any (c:Cfg) (w:cA):bB dA 21 #[cfgV c] w (RV (V I c.check) w):=by
 obtain⟨n,b,t,se,wa,ca,wt,tr,po⟩:=c
 simp only[cfgV]
 go_enter Tryz.func21,Tryz.ntmps21
 go_wp2_with (go_at_call 45;refine(within_any _ _ _ _).mono ?_;rintro e w' ⟨rfl,rfl⟩)
 all_goals
  go_ret
  exact RV.of (by unfold Cfg.check;(repeat' split) <;> first | rfl | (exfalso;simp_all;done) | (exfalso;simp_all;omega)) (by repeat (with_reducible first | exact fA _ _ | assumption | apply eA))
theorem endOk_any (c:Cfg) (a:Int) (h n:Bool) (w:cA):bB dA 115 #[cfgV c,V I a,aA h,aA n] w (RV (aA (endOk c a h n)) w):=by
 obtain⟨nn,b,t,se,wa,ca,wt,tr,po⟩:=c
 simp only[cfgV]
 go_enter Tryz.func115,Tryz.ntmps115
 go_wp2
 all_goals
  go_ret
  exact RV.of (by simp[endOk, *] <;> omega) (by repeat (with_reducible first | exact fA _ _ | assumption | apply eA))
def krowV (r:KRow):Value:=.agg #[aA r.fromHome,aA r.fromNode,aA r.toHome,aA r.toNode,aA r.seq,aA r.who,aA r.write,aA r.tokens]
theorem idx257 {i:Int} {cs:Array Value} {v:Value} (h1:0≤i) (h2:i < 8) (hv:Value.agg (cs.extract (i.toNat * 8) (i.toNat * 8+8))=v) (w:cA):(Instr.index 257 (.agg cs) (V I i)).run dA w=.ok v w:=by
 have hu:Tryz.prog.underlying 257=M (.array 8 228):=by kernel_rfl
 have hs:∃ fs,Tryz.prog.underlying 228=M (.struct fs):=by
  have h:(match Tryz.prog.underlying 228 with | some (.struct _)=>true | _=>false)=true:=by kernel_rfl
  split at h
  ·rename_i fs hfs;exact⟨fs,hfs⟩
  ·cases h
 obtain⟨fs,hs⟩:=hs
 obtain⟨i0,hi,hz0,hz1,hz2⟩:=info_parts (show(Tryz.prog.info? 228).map (fun i=>(i.zero,i.size,i.bytes))=M (M (.agg #[aA false,aA false,aA false,aA false,aA false,aA false,aA false,aA false]),8,8) by kernel_rfl)
 simp[Instr.index,asIntOf,run_underlying hu,run_underlying hs,isAgg,part,sizeOf,typeInfo,hi,hz1,Result.andThen,h1,h2,hv]
def rowsV (k:Int):Value:=if k < 1∨k > 7 then .tuple #[krowV kr0,aA false] else .tuple #[krowV (rowsK k),aA true]
theorem rows_any (k:Int) (w:cA):bB dA 114 #[V I k] w (RV (rowsV k) w):=by
 by_cases h1:k < 1∨k > 7
 ·rw[show rowsV k=.tuple #[krowV kr0,aA false] from if_pos h1]
  rcases h1 with h1 | h1
  all_goals
   go_enter Tryz.func114,Tryz.ntmps114
   go_wp2
   exact yA (v:=.tuple #[krowV kr0,aA false]) (by simp[results,Tryz.results114,go_sem,krowV,kr0]) rfl ⟨rfl,by repeat (with_reducible first | exact fA _ _ | assumption | apply eA)⟩
 ·rw[show rowsV k=.tuple #[krowV (rowsK k),aA true] from if_neg h1]
  have hk:k=1∨k=2∨k=3∨k=4∨k=5∨k=6∨k=7:=vB
  clear h1
  rcases hk with rfl | rfl | rfl | rfl | rfl | rfl | rfl
  ·go_enter Tryz.func114,Tryz.ntmps114
   go_wp2_with fail
   rw[idx257 (v:=.agg #[aA true,aA true,aA true,aA true,aA false,aA false,aA false,aA true]) yB yB ?hv]
   case hv=>rfl
   go_wp2
   exact yA (v:=.tuple #[krowV (rowsK 1),aA true]) (by simp[results,Tryz.results114,go_sem,krowV,rowsK]) rfl ⟨rfl,by repeat (with_reducible first | exact fA _ _ | assumption | apply eA)⟩
  ·go_enter Tryz.func114,Tryz.ntmps114
   go_wp2_with fail
   rw[idx257 (v:=.agg #[aA false,aA true,aA true,aA true,aA false,aA false,aA true,aA false]) yB yB ?hv]
   case hv=>rfl
   go_wp2
   exact yA (v:=.tuple #[krowV (rowsK 2),aA true]) (by simp[results,Tryz.results114,go_sem,krowV,rowsK]) rfl ⟨rfl,by repeat (with_reducible first | exact fA _ _ | assumption | apply eA)⟩
  ·go_enter Tryz.func114,Tryz.ntmps114
   go_wp2_with fail
   rw[idx257 (v:=.agg #[aA false,aA true,aA true,aA false,aA false,aA false,aA false,aA false]) yB yB ?hv]
   case hv=>rfl
   go_wp2
   exact yA (v:=.tuple #[krowV (rowsK 3),aA true]) (by simp[results,Tryz.results114,go_sem,krowV,rowsK]) rfl ⟨rfl,by repeat (with_reducible first | exact fA _ _ | assumption | apply eA)⟩
  ·go_enter Tryz.func114,Tryz.ntmps114
   go_wp2_with fail
   rw[idx257 (v:=.agg #[aA true,aA false,aA false,aA true,aA true,aA true,aA false,aA false]) yB yB ?hv]
   case hv=>rfl
   go_wp2
   exact yA (v:=.tuple #[krowV (rowsK 4),aA true]) (by simp[results,Tryz.results114,go_sem,krowV,rowsK]) rfl ⟨rfl,by repeat (with_reducible first | exact fA _ _ | assumption | apply eA)⟩
  ·go_enter Tryz.func114,Tryz.ntmps114
   go_wp2_with fail
   rw[idx257 (v:=.agg #[aA false,aA true,aA true,aA false,aA true,aA false,aA false,aA false]) yB yB ?hv]
   case hv=>rfl
   go_wp2
   exact yA (v:=.tuple #[krowV (rowsK 5),aA true]) (by simp[results,Tryz.results114,go_sem,krowV,rowsK]) rfl ⟨rfl,by repeat (with_reducible first | exact fA _ _ | assumption | apply eA)⟩
  ·go_enter Tryz.func114,Tryz.ntmps114
   go_wp2_with fail
   rw[idx257 (v:=.agg #[aA true,aA false,aA false,aA true,aA true,aA false,aA false,aA false]) yB yB ?hv]
   case hv=>rfl
   go_wp2
   exact yA (v:=.tuple #[krowV (rowsK 6),aA true]) (by simp[results,Tryz.results114,go_sem,krowV,rowsK]) rfl ⟨rfl,by repeat (with_reducible first | exact fA _ _ | assumption | apply eA)⟩
  ·go_enter Tryz.func114,Tryz.ntmps114
   go_wp2_with fail
   rw[idx257 (v:=.agg #[aA false,aA true,aA true,aA false,aA true,aA false,aA false,aA false]) yB yB ?hv]
   case hv=>rfl
   go_wp2
   exact yA (v:=.tuple #[krowV (rowsK 7),aA true]) (by simp[results,Tryz.results114,go_sem,krowV,rowsK]) rfl ⟨rfl,by repeat (with_reducible first | exact fA _ _ | assumption | apply eA)⟩
theorem form_any (c:Cfg) (l:Let) (r:KRow) (w:cA):bB dA 116 #[cfgV c,letV l,krowV r] w (RV (aA (formOk c l r)) w):=by
 obtain⟨nn,b,t,se,wa,ca,wt,tr,po⟩:=c
 obtain⟨k,f,dd,bl,q,wh,wr,⟨ct,ow,ha,da⟩⟩:=l
 obtain⟨r1,r2,r3,r4,r5,r6,r7,r8⟩:=r
 cases r5 <;> cases r6 <;> cases r7 <;> cases wr
 all_goals
  simp only[cfgV,letV,krowV]
  go_enter Tryz.func116,Tryz.ntmps116
  go_wp2_with (go_at_call 115;refine(endOk_any ⟨nn,b,t,se,wa,ca,wt,tr,po⟩ wh false true _).mono ?_;rintro e w1 ⟨rfl,hb⟩;obtain⟨hcl,hfr⟩:=bcell hb;have HB:=AS hb;clear hb;generalize hq:endOk ⟨nn,b,t,se,wa,ca,wt,tr,po⟩ wh false true=eo at *;cases eo)
  all_goals
   go_ret
   exact RV.of (by simp[formOk, *] <;> omega) (by repeat (first | exact fA _ _ | apply eA | exact(eA (eA (eA (fA _ w) _) _) _).trans (HB.out.mono (by simp;omega))))
end Go.Proofs.YtiebppkhaiofeaaGreat.K
namespace Go.Proofs.YtiebppkhaiofeaaGreatW.PrintWords
open Go.RowKit
section
variable {P:Program} {d:Nat} {xs ys:Array Value} {f:Field} {fs:List Field} {a b:Value} {r s:Bool} {w:World}
theorem eqf_last (hn:(f.name == "_")=false) (ha:(part f.type xs f.offset).run P w=.ok a w) (hb:(part f.type ys f.offset).run P w=.ok b w) (he:(Op.equalIn d f.type a b).run P w=.ok r w):(Op.eqFields d xs ys [f]).run P w=.ok r w:=by
 have hn':f.name≠"_":=by simpa using hn
 simp only[Op.eqFields,if_pos hn',Sem.run_bind,ha,hb,he,Result.andThen_ok]
 cases r <;> simp
theorem eqf_cons (hn:(f.name == "_")=false) (ha:(part f.type xs f.offset).run P w=.ok a w) (hb:(part f.type ys f.offset).run P w=.ok b w) (he:(Op.equalIn d f.type a b).run P w=.ok r w) (hr:(Op.eqFields d xs ys fs).run P w=.ok s w):(Op.eqFields d xs ys (f :: fs)).run P w=.ok (r && s) w:=by
 have hn':f.name≠"_":=by simpa using hn
 rw[Op.eqFields]
 simp only[if_pos hn',Sem.run_bind,ha,hb,he,Result.andThen_ok]
 cases r
 ·simp
 ·simpa using hr
theorem eqA_of {t:TypeId} {fs:Array Field} (hu:P.underlying t=M (.struct fs)) (hp:P.stoodInHeld t=false) (h:(Op.eqFields d xs ys fs.toList).run P w=.ok r w):(Op.equalIn (d+1) t (.agg xs) (.agg ys)).run P w=.ok r w:=by
 have hf:P.fieldsOf t=fs:=by simp[Program.fieldsOf,hu]
 rw[run_equalIn_struct (P:=P) w d t xs ys (by rw[hf];exact hu) hp,hf]
 exact h
end
end Go.Proofs.YtiebppkhaiofeaaGreatW.PrintWords
