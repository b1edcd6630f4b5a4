/- Part of the proof of TopStarver: what functions of the program do. -/
import Derived.Test.YtiebppkhaiofeaaGreatS47
import Derived.Test.YtiebppkhaiofeaaGreatS49
set_option maxHeartbeats 4000000
set_option maxRecDepth 100000
set_option linter.unusedVariables false
set_option linter.unusedSimpArgs false
namespace Go.Proofs.YtiebppkhaiofeaaGreat.K
open Go.RowKit Go.Proofs.YtiebppkhaiofeaaGreatW.PrintWords Go.Proofs.YtiebppkhaiofeaaGreat.S
attribute [local go_sem] World.cell?_alloc_some
open Go.ChangeMaps Go.MapKept
def ops0:List Ent:=[⟨1,0,0,1,7⟩,⟨1,1,0,0,0⟩]
def l0:List Ent:=[⟨1,0,0,1,7⟩,⟨2,0,0,0,0⟩,⟨2,0,0,0,0⟩,⟨2,0,0,0,0⟩,⟨1,1,0,0,0⟩,⟨2,0,0,0,0⟩,⟨2,0,0,0,0⟩,⟨2,0,0,0,0⟩]
def ds0:List S.Done:=[⟨0,1,⟨0,true,7⟩,7,4⟩,⟨1,1,⟨0,false,0⟩,7,8⟩]
theorem script0:scriptN c0 ⟨0,0,0⟩ ops0 (S.World.new c0) []=(l0,true):=by kernel_rfl
theorem run0:(runL c0 l0).2.2=ds0:=by kernel_rfl
theorem nodes0:(runL c0 l0).1.nodes.length=2:=by kernel_rfl
theorem mem0:(runL c0 l0).1.home.mem=[⟨0,false,false,0⟩]:=by kernel_rfl
theorem way0:(runL c0 l0).1.way=[]:=by kernel_rfl
theorem rows00:((runL c0 l0).1.nodes.getD 0 (S.Node.new 0)).lines.rows 0=[0]/\((runL c0 l0).1.nodes.getD 0 (S.Node.new 0)).lines.tok 0=⟨1,true,true,7⟩:=⟨by kernel_rfl,by kernel_rfl⟩
theorem rows01:((runL c0 l0).1.nodes.getD 1 (S.Node.new 1)).lines.rows 0=[0]/\((runL c0 l0).1.nodes.getD 1 (S.Node.new 1)).lines.tok 0=⟨1,false,true,7⟩:=⟨by kernel_rfl,by kernel_rfl⟩
theorem cnt00:(cntL c0 l0).2=[0,8,0,0,0,1,1,0,2,4,0,0,0,0,0,0,2,4,0,0,0,0,0]:=by kernel_rfl
theorem chk0:checkN ds0 Regs.new 0=(0,true):=by kernel_rfl
theorem ok0:∀ i,i < l0.length->EntOk c0 (runL c0 (l0.take i)).1 (l0.getD i ent0):=by
 have h:((List.range l0.length).all fun i=>decide (EntOk c0 (runL c0 (l0.take i)).1 (l0.getD i ent0)))=true:=by kernel_rfl
 intro i hi
 have:=List.all_eq_true.1 h i (List.mem_range.2 hi)
 simpa using this
theorem imod_one (x:Int):imod x 1=0:=by unfold imod;simp[Int.tmod_one]
theorem rows_one {n:S.Node} {m:Int} (h:NOk c0 n m) {a:Int} (hr:n.lines.rows 0=[a]) {ks:List Int} (hn:ks.Nodup) (hk:∀ k,n.lines.rows k≠[]->k∈ks):ks.flatMap n.lines.rows=[a]:=by
 have hz:∀ k,k≠0->n.lines.rows k=[]:=fun k hk0=>by
  cases e:n.lines.rows k with
  | nil=>rfl
  | cons x xs =>
   have h1:=(h.cac.own k x (by rw[e];simp)).2
   rw[show c0.sets=1 from rfl,imod_one] at h1
   exact absurd h1.symm hk0
 have h0:(0:Int)∈ks:=hk 0 (by rw[hr];simp)
 clear hk
 induction ks with
 | nil=>simp at h0
 | cons k ks ih =>
  rw[List.flatMap_cons]
  rw[List.nodup_cons] at hn
  by_cases e:k=0
  ·subst e
   have:ks.flatMap n.lines.rows=[]:=by
    rw[List.flatMap_eq_nil_iff]
    intro y hy
    exact hz y (fun e=>hn.1 (e ▸ hy))
   rw[hr,this];rfl
  ·rw[hz k e]
   exact ih hn.2 (by
    rcases List.mem_cons.1 h0 with h | h
    ·exact absurd h.symm e
    ·exact h)
def lss0:List (List S.Line):=[[⟨0,⟨1,true,true,7⟩⟩],[⟨0,⟨1,false,true,7⟩⟩]]
theorem aud00:blkN (toksB ((0:Nat):Int) lss0 [⟨0,false,false,0⟩] [])=(c0.tokens,1,true):=by kernel_rfl
theorem aud0 (k:Nat) (hk:(k:Int) < c0.blocks):blkN (toksB k lss0 [⟨0,false,false,0⟩] [])=(c0.tokens,1,true):=by
 have e:k=0:=by
  have h:(k:Int) < 1:=hk
  omega
 rw[e]
 exact aud00
theorem lines0 {n:S.Node} {m:Int} (h:NOk c0 n m) {b:Bun} (hr:n.lines.rows 0=[0]/\n.lines.tok 0=b) {v:Value} {B:Nat} {w:Go.World} (hL:LinesV n v B w):∃ A c,v=.slice A 1 c/\OwnE lineE (.slice A 1 c) [⟨0,b⟩] w:=by
 obtain⟨⟨ks,h1,h2,h3⟩,-⟩:=hL
 rw[rows_one h hr.1 h1 h2] at h3
 have h4:OwnE lineE v [⟨0,b⟩] w:=by
  have e:([(0:Int)].mergeSort fun x y=>decide (x≤y))=[0]:=by simp
  rw[e] at h3
  simpa [hr.2] using h3
 obtain⟨A,c,e,-⟩:=h4.row
 exact⟨A,c,e,e ▸ h4⟩
theorem shot0 {Ap Ah Af:Option Addr} {np cp nh ch nf cf:Nat} {ps:List PlaceR} {B:Nat} {w:Go.World} (hS:ShotV (runL c0 l0).1 Ap Ah Af np cp nh ch nf cf ps B w):np=ps.length/\nh=1/\nf=0/\ShotP Ap Ah Af cp ch cf ps lss0 [⟨0,false,false,0⟩] [] w:=by
 obtain⟨h1,h2,h3,h4,h5,h6,h7,h8⟩:=hS
 have hw:=(runL_ok (c:=c0) (by decide) l0 (by decide) l0.length (Nat.le_refl _)).1
 rw[List.take_length] at hw
 rw[nodes0] at h3
 rw[mem0] at h5 h7
 rw[way0] at h6 h8
 have h7:nh=1:=h7
 have h8:nf=0:=h8
 subst h2 h7 h8
 have hk:∀ i,i < 2->NOk c0 ((runL c0 l0).1.nodes.getD i (S.Node.new i)) (65536 * (runL c0 l0).1.steps):=fun i hi=>hw.node _ (getD_mem _ (by rw[nodes0];exact hi))
 refine⟨rfl,rfl,rfl,h1,h3.symm,fun i hi=>?_,fun i hi=>?_,h5,h6⟩
 ·have:=(h4.ok i hi).2.2.1
  rw[h3] at hi
  match i,hi with
  | 0,_=>exact lines0 (hk 0 (by omega)) rows00 this
  | 1,_=>exact lines0 (hk 1 (by omega)) rows01 this
 ·obtain⟨⟨L,-,-,h⟩,-⟩:=(h4.ok i hi).2.2.2
  obtain⟨A,c,e,-⟩:=h.row
  exact⟨A,_,c,e⟩
theorem runLive {A:Option Addr} {lc:Nat} {w:Go.World} (hR:OwnE entE (.slice A 8 lc) l0 w):Calls Tryz.prog 14 #[.agg #[.int .i64 2,.int .i64 1,.int .i64 2,.int .i64 1,.int .i64 1,.int .i64 100,.int .i64 1,.int .i64 0,.int .i64 1],.slice A 8 lc] w fun e w'=>∃ Ar nr cr gd cd Ap Ah Af cp2 ch cf ps st ti,e=.returned (.tuple #[.agg #[.slice Ar nr cr,.slice (some ⟨gd,0,none⟩) 2 cd,.int .i64 st,.int .i64 ti,.slice Ap ps.length cp2,.slice Ah 1 ch,.slice Af 0 cf],.int .i64 0])/\OwnE doneE (.slice (some ⟨gd,0,none⟩) 2 cd) ds0 w'/\ShotP Ap Ah Af cp2 ch cf ps lss0 [⟨0,false,false,0⟩] [] w'/\Below w.heap.size w w':=by
 refine(run_any c0 (by decide) l0 (by decide) hR).mono ?_
 rintro e w' ⟨Ar,cr,Ad,cd,Ap,Ah,Af,np,cp,nh,ch,nf,cf,ps,rfl,-,h2,h3,h4⟩
 obtain⟨rfl,rfl,rfl,hP⟩:=shot0 h3
 rw[run0] at h2 ⊢
 obtain⟨gd,cd2,e,-⟩:=own_some (i:=0) h2 (by decide)
 injection e with e1 e2 e3
 subst e1 e3
 exact⟨Ar,_,cr,gd,cd,Ap,Ah,Af,cp,ch,cf,ps,_,_,rfl,h2,hP,h4⟩
theorem auditLive {st ti:Int} {Ap Ah Af:Option Addr} {cp ch cf:Nat} {ps:List PlaceR} {w:Go.World} (hP:ShotP Ap Ah Af cp ch cf ps lss0 [⟨0,false,false,0⟩] [] w):Calls Tryz.prog 18 #[.agg #[.int .i64 2,.int .i64 1,.int .i64 2,.int .i64 1,.int .i64 1,.int .i64 100,.int .i64 1,.int .i64 0,.int .i64 1],.agg #[.int .i64 st,.int .i64 ti,.slice Ap ps.length cp,.slice Ah 1 ch,.slice Af 0 cf]] w fun e w'=>e=.returned (.tuple #[.int .i64 0,.int .i64 0])/\Below w.heap.size w w' :=
 auditCheck_any c0 (by decide) (by decide) st ti Ap Ah Af cp ch cf ps lss0 [⟨0,false,false,0⟩] [] w hP (by decide) aud0
theorem dval {gd cd:Nat} {w:Go.World} (h:OwnE doneE (.slice (some ⟨gd,0,none⟩) 2 cd) ds0 w):w.cell? ⟨gd,12,none⟩=some (.int .i64 7):=by
 obtain⟨gd2,c2,e,-,-,-,hcell⟩:=own_some (i:=1) h (by decide)
 have e1:gd=gd2:=by injection e with e1 _ _;injection e1 with e1;injection e1
 rw[e1]
 exact(hcell 5 (by decide)).trans rfl
theorem live_any (w:Go.World):Calls Tryz.prog 6 #[] w (RV (.bool true) w):=by
 have X0:=AS (blk_alloc (blk_new w (.cells #[.int .i64 2,.int .i64 1,.int .i64 2,.int .i64 1,.int .i64 1,.int .i64 100,.int .i64 1,.int .i64 0,.int .i64 1] 23)) (.cells #[.int .i64 1,.int .i64 0,.int .i64 0,.int .i64 1,.int .i64 7,.int .i64 1,.int .i64 1,.int .i64 0,.int .i64 0,.int .i64 0] 33))
 have OE:=AS (show OwnE entE (.slice (some ⟨w.heap.size+1,0,none⟩) 2 2) ops0 ((w.alloc (.cells #[.int .i64 2,.int .i64 1,.int .i64 2,.int .i64 1,.int .i64 1,.int .i64 100,.int .i64 1,.int .i64 0,.int .i64 1] 23)).alloc (.cells #[.int .i64 1,.int .i64 0,.int .i64 0,.int .i64 1,.int .i64 7,.int .i64 1,.int .i64 1,.int .i64 0,.int .i64 0,.int .i64 0] 33)) from OwnE.mk (xs:=ops0) (blk_newE _ _ (by simp only[World.size_alloc])) (by decide) (by decide) (by decide) (by rfl))
 have BB:=AS (show Below w.heap.size w ((w.alloc (.cells #[.int .i64 2,.int .i64 1,.int .i64 2,.int .i64 1,.int .i64 1,.int .i64 100,.int .i64 1,.int .i64 0,.int .i64 1] 23)).alloc (.cells #[.int .i64 1,.int .i64 0,.int .i64 0,.int .i64 1,.int .i64 7,.int .i64 1,.int .i64 1,.int .i64 0,.int .i64 0,.int .i64 0] 33)) from by repeat (with_reducible first | exact Below.refl _ _ | apply below_alloc))
 have SC:=AS (show Calls Tryz.prog 13 #[.agg #[.int .i64 2,.int .i64 1,.int .i64 2,.int .i64 1,.int .i64 1,.int .i64 100,.int .i64 1,.int .i64 0,.int .i64 1],.agg #[.int .i64 0,.int .i64 0,.int .i64 0],.slice (some ⟨w.heap.size+1,0,none⟩) 2 2] ((w.alloc (.cells #[.int .i64 2,.int .i64 1,.int .i64 2,.int .i64 1,.int .i64 1,.int .i64 100,.int .i64 1,.int .i64 0,.int .i64 1] 23)).alloc (.cells #[.int .i64 1,.int .i64 0,.int .i64 0,.int .i64 1,.int .i64 7,.int .i64 1,.int .i64 1,.int .i64 0,.int .i64 0,.int .i64 0] 33)) (fun e w'=>∃ A cp,e=.returned (.tuple #[.slice A 8 cp,.bool true])/\OwnE entE (.slice A 8 cp) l0 w'/\Below ((w.alloc (.cells #[.int .i64 2,.int .i64 1,.int .i64 2,.int .i64 1,.int .i64 1,.int .i64 100,.int .i64 1,.int .i64 0,.int .i64 1] 23)).alloc (.cells #[.int .i64 1,.int .i64 0,.int .i64 0,.int .i64 1,.int .i64 7,.int .i64 1,.int .i64 1,.int .i64 0,.int .i64 0,.int .i64 0] 33)).heap.size ((w.alloc (.cells #[.int .i64 2,.int .i64 1,.int .i64 2,.int .i64 1,.int .i64 1,.int .i64 100,.int .i64 1,.int .i64 0,.int .i64 1] 23)).alloc (.cells #[.int .i64 1,.int .i64 0,.int .i64 0,.int .i64 1,.int .i64 7,.int .i64 1,.int .i64 1,.int .i64 0,.int .i64 0,.int .i64 0] 33)) w') from by
  have h:=script_any (c:=c0) (by decide) 0 0 0 ops0 OE.out (by decide)
  rw[script0] at h
  exact h)
 have SZ:=AS (show((w.alloc (.cells #[.int .i64 2,.int .i64 1,.int .i64 2,.int .i64 1,.int .i64 1,.int .i64 100,.int .i64 1,.int .i64 0,.int .i64 1] 23)).alloc (.cells #[.int .i64 1,.int .i64 0,.int .i64 0,.int .i64 1,.int .i64 7,.int .i64 1,.int .i64 1,.int .i64 0,.int .i64 0,.int .i64 0] 33)).heap.size=w.heap.size+2 from by simp only[World.size_alloc])
 go_enter Tryz.func6,Tryz.ntmps6
 go_wp2_with fail
 generalize ((w.alloc (.cells #[.int .i64 2,.int .i64 1,.int .i64 2,.int .i64 1,.int .i64 1,.int .i64 100,.int .i64 1,.int .i64 0,.int .i64 1] 23)).alloc (.cells #[.int .i64 1,.int .i64 0,.int .i64 0,.int .i64 1,.int .i64 7,.int .i64 1,.int .i64 1,.int .i64 0,.int .i64 0,.int .i64 0] 33))=W1 at X0 OE BB SC SZ ⊢
 refine SC.out.mono ?_
 rintro e w2 ⟨A,cp,rfl,hO,hb2⟩
 have X2:=AS (blk_below X0.out hb2)
 have B2:=AS (BB.out.trans (hb2.mono BB.out.size))
 have O2:=AS hO
 clear hO hb2 SC OE
 go_upto_region 3 with fail
 have e0:=cw X2.out 0 (v:=.int .i64 2)
 have e1:=cw X2.out 1 (v:=.int .i64 1)
 have e2:=cw X2.out 2 (v:=.int .i64 2)
 have e3:=cw X2.out 3 (v:=.int .i64 1)
 have e4:=cw X2.out 4 (v:=.int .i64 1)
 have e5:=cw X2.out 5 (v:=.int .i64 100)
 have e6:=cw X2.out 6 (v:=.int .i64 1)
 have e7:=cw X2.out 7 (v:=.int .i64 0)
 have e8:=cw X2.out 8 (v:=.int .i64 1)
 go_wp2_with fail
 refine(runLive O2.out).mono ?_
 rintro e w3 ⟨Ar,nr,cr,gd,cd,Ap,Ah,Af,cp2,ch,cf,ps,st,ti,rfl,hD,hP,hb3⟩
 have Q4:=AS (blk_new w3 (.cells #[.slice Ar nr cr,.slice (some ⟨gd,0,none⟩) 2 cd,.int .i64 st,.int .i64 ti,.slice Ap ps.length cp2,.slice Ah 1 ch,.slice Af 0 cf] 69))
 have B4:=AS (below_alloc hb3 (.cells #[.slice Ar nr cr,.slice (some ⟨gd,0,none⟩) 2 cd,.int .i64 st,.int .i64 ti,.slice Ap ps.length cp2,.slice Ah 1 ch,.slice Af 0 cf] 69))
 have D4:=AS (hD.ks (KS.below (fun _=>False) (below_alloc (Below.refl _ w3) (.cells #[.slice Ar nr cr,.slice (some ⟨gd,0,none⟩) 2 cd,.int .i64 st,.int .i64 ti,.slice Ap ps.length cp2,.slice Ah 1 ch,.slice Af 0 cf] 69))) (fun _ _=>id))
 have P4:=AS (hP.below (below_alloc (Below.refl _ w3) (.cells #[.slice Ar nr cr,.slice (some ⟨gd,0,none⟩) 2 cd,.int .i64 st,.int .i64 ti,.slice Ap ps.length cp2,.slice Ah 1 ch,.slice Af 0 cf] 69)))
 clear hD hP hb3 e0 e1 e2 e3 e4 e5 e6 e7 e8
 go_upto_region 4 with fail
 generalize w3.alloc (.cells #[.slice Ar nr cr,.slice (some ⟨gd,0,none⟩) 2 cd,.int .i64 st,.int .i64 ti,.slice Ap ps.length cp2,.slice Ah 1 ch,.slice Af 0 cf] 69)=w4 at Q4 B4 D4 P4 ⊢
 generalize w3.heap.size=q at Q4 ⊢
 have k1:=cw Q4.out 1 (v:=.slice (some ⟨gd,0,none⟩) 2 cd)
 go_wp2_with fail
 refine(check_any ds0 (by decide) D4.out).mono ?_
 rintro e w5 ⟨rfl,hb5⟩
 rw[chk0]
 have Q5:=AS (blk_below Q4.out hb5)
 have B5:=AS (B4.out.trans (hb5.mono B4.out.size))
 have D5:=AS (D4.out.ks (KS.below (fun _=>False) hb5) (fun _ _=>id))
 have P5:=AS (P4.out.below hb5)
 have O5:=AS (O2.out.ks (KS.below (fun _=>False) B5.out) (fun _ _=>id))
 have X5:=AS (blk_below X2.out B5.out)
 clear hb5 k1
 go_upto_region 5 with fail
 have e0:=cw X5.out 0 (v:=.int .i64 2)
 have e1:=cw X5.out 1 (v:=.int .i64 1)
 have e2:=cw X5.out 2 (v:=.int .i64 2)
 have e3:=cw X5.out 3 (v:=.int .i64 1)
 have e4:=cw X5.out 4 (v:=.int .i64 1)
 have e5:=cw X5.out 5 (v:=.int .i64 100)
 have e6:=cw X5.out 6 (v:=.int .i64 1)
 have e7:=cw X5.out 7 (v:=.int .i64 0)
 have e8:=cw X5.out 8 (v:=.int .i64 1)
 go_wp2_with fail
 refine(countRun_any c0 (by decide) l0 (by decide) ok0 O5.out).mono ?_
 rintro e w6 ⟨rfl,hb6⟩
 obtain⟨w7,hst,hC,hk⟩:=store79 (CntAt.new w6) (cs':=(cntL c0 l0).2) (by rw[cnt00];rfl)
 have HST:=AS hst
 have C7:=AS hC
 have B7:=AS (hb6.trans (((below_alloc (Below.refl w6.heap.size w6) _).trans (hk.toBelow (B:=w6.heap.size) (fun y hy=>by have hy':y=w6.heap.size:=hy;omega) (by rw[World.size_alloc];omega))).mono hb6.size))
 clear hst hC hk hb6 e0 e1 e2 e3 e4 e5 e6 e7 e8
 go_upto_region 6 with (first | (refine wpList_store79 rfl _ _ rfl w6.heap.size rfl _ rfl w7 HST.out ?_) | fail)
 clear HST
 generalize w6.heap.size=y at C7 ⊢
 have Q7:=AS (blk_below Q5.out B7.out)
 have X7:=AS (blk_below X5.out B7.out)
 have P7:=AS (P5.out.below B7.out)
 have D7:=AS (D5.out.ks (KS.below (fun _=>False) B7.out) (fun _ _=>id))
 have e0:=cw X7.out 0 (v:=.int .i64 2)
 have e1:=cw X7.out 1 (v:=.int .i64 1)
 have e2:=cw X7.out 2 (v:=.int .i64 2)
 have e3:=cw X7.out 3 (v:=.int .i64 1)
 have e4:=cw X7.out 4 (v:=.int .i64 1)
 have e5:=cw X7.out 5 (v:=.int .i64 100)
 have e6:=cw X7.out 6 (v:=.int .i64 1)
 have e7:=cw X7.out 7 (v:=.int .i64 0)
 have e8:=cw X7.out 8 (v:=.int .i64 1)
 have k0:=cw Q7.out 0 (v:=.slice Ar nr cr)
 have k1:=cw Q7.out 1 (v:=.slice (some ⟨gd,0,none⟩) 2 cd)
 have k2:=cw Q7.out 2 (v:=.int .i64 st)
 have k3:=cw Q7.out 3 (v:=.int .i64 ti)
 have k4:=cw Q7.out 4 (v:=.slice Ap ps.length cp2)
 have k5:=cw Q7.out 5 (v:=.slice Ah 1 ch)
 have k6:=cw Q7.out 6 (v:=.slice Af 0 cf)
 go_wp2_with fail
 refine(auditLive P7.out).mono ?_
 rintro e w8 ⟨rfl,hb8⟩
 have Q8:=AS (blk_below Q7.out hb8)
 have X8:=AS (blk_below X7.out hb8)
 have C8:=AS (C7.out.below hb8)
 have D8:=AS (D7.out.ks (KS.below (fun _=>False) hb8) (fun _ _=>id))
 have B8:=AS hb8
 clear hb8 e0 e1 e2 e3 e4 e5 e6 e7 e8 k0 k1 k2 k3 k4 k5 k6
 go_upto_region 7 with fail
 have e0:=cw X8.out 0 (v:=.int .i64 2)
 have e1:=cw X8.out 1 (v:=.int .i64 1)
 have e2:=cw X8.out 2 (v:=.int .i64 2)
 have e3:=cw X8.out 3 (v:=.int .i64 1)
 have e4:=cw X8.out 4 (v:=.int .i64 1)
 have e5:=cw X8.out 5 (v:=.int .i64 100)
 have e6:=cw X8.out 6 (v:=.int .i64 1)
 have e7:=cw X8.out 7 (v:=.int .i64 0)
 have e8:=cw X8.out 8 (v:=.int .i64 1)
 have k1:=cw Q8.out 1 (v:=.slice (some ⟨gd,0,none⟩) 2 cd)
 have y5:w8.cell? ⟨y,5,none⟩=some (.int .i64 1):=by rw[C8.out.cell (by decide),cnt00];rfl
 have y6:w8.cell? ⟨y,6,none⟩=some (.int .i64 1):=by rw[C8.out.cell (by decide),cnt00];rfl
 have d12:w8.cell? ⟨gd,12,none⟩=some (.int .i64 7):=dval D8.out
 go_wp2_with fail
 refine(bound_live w8).mono ?_
 rintro e w9 ⟨rfl,hb9⟩
 have B9:=AS hb9
 clear hb9
 go_wp2
 go_ret
 exact⟨rfl,B2.out.trans ((((B5.out.trans (B7.out.mono B5.out.size)).trans (B8.out.mono (Nat.le_trans B5.out.size B7.out.size))).trans (B9.out.mono (Nat.le_trans (Nat.le_trans B5.out.size B7.out.size) B8.out.size))).mono B2.out.size)⟩
def TopI (c:Cfg) (s:S.World) (b:Nat) (Pr:Set_) (w0 w:Go.World):Prop:=∃ F:Set_,WldAt c s b F w/\(∀ x,F x->w0.heap.size≤x/\x < w.heap.size/\¬ Pr x)/\Below w0.heap.size w0 w
section
variable {c:Cfg} {s:S.World} {b:Nat} {Pr:Set_} {w0 w w':Go.World}
theorem TopI.below (h:TopI c s b Pr w0 w) (hb:Below w.heap.size w w'):TopI c s b Pr w0 w':=by
 obtain⟨F,h1,h2,h3⟩:=h
 have hs:=hb.size
 exact⟨F,h1.keep (KS.below (fun _=>False) hb) (fun x _ h=>⟨h,id⟩),fun x h=>⟨(h2 x h).1,by have:=(h2 x h).2.1;omega,(h2 x h).2.2⟩,h3.trans (hb.mono h3.size)⟩
theorem TopI.turn {G:Set_} (h:TopI c s b Pr w0 w) (hk:KS G w w') (hG:∀ x,G x->Pr x/\w0.heap.size≤x):TopI c s b Pr w0 w':=by
 obtain⟨F,h1,h2,h3⟩:=h
 have hs:=hk.size
 exact⟨F,h1.keep hk (fun x _ h=>⟨h,fun e=>(h2 x h).2.2 (hG x e).1⟩),fun x h=>⟨(h2 x h).1,by have:=(h2 x h).2.1;omega,(h2 x h).2.2⟩,h3.trans (hk.toBelow (fun y hy=>(hG y hy).2) h3.size)⟩
theorem TopI.step (h:TopI c s b Pr w0 w) (hPr:∀ x,Pr x->x < w.heap.size) (hs:WB c s) (e:Ent):Calls Tryz.prog 9 #[.pointer (some ⟨b,0,none⟩),entV e] w fun en w'=>∃ A n cp,en=.returned (.tuple #[.int .i64 (s.step c e).2.1,.slice A n cp])/\TopI c (s.step c e).1 b Pr w0 w'/\OwnE doneE (.slice A n cp) (s.step c e).2.2 w'/\KS (fun x=>w0.heap.size≤x/\¬ Pr x) w w':=by
 obtain⟨F,h1,h2,h3⟩:=h
 refine(worldStep_any h1 hs e).mono ?_
 rintro en w' ⟨A,n,cp,he,hW,hO,hk⟩
 have hz:=hk.size
 have hz0:=h3.size
 refine⟨A,n,cp,he,⟨fun x=>gr F w x/\x < w'.heap.size,hW.keep (KS.refl (fun _=>False) _) (fun x hx h=>⟨⟨h,hx⟩,id⟩),fun x h=>?_,h3.trans (hk.toBelow (fun y hy=>(h2 y hy).1) hz0)⟩,hO,hk.mono (fun x _ h=>⟨(h2 x h).1,(h2 x h).2.2⟩)⟩
 rcases h.1 with h' | h'
 ·exact⟨(h2 x h').1,h.2,(h2 x h').2.2⟩
 ·exact⟨by omega,h.2,fun hp=>by have:=hPr x hp;omega⟩
theorem TopI.shot (h:TopI c s b Pr w0 w) (hs:WOk c s) (hc:c.check=0):Calls Tryz.prog 10 #[.pointer (some ⟨b,0,none⟩)] w fun e w'=>∃ Ap Ah Af np cp nh ch nf cf ps,e=.returned (shotV s Ap Ah Af np cp nh ch nf cf)/\ShotV s Ap Ah Af np cp nh ch nf cf ps w.heap.size w'/\Below w.heap.size w w':=by
 obtain⟨F,h1,-⟩:=h
 exact worldShot_any h1 hs hc
theorem TopI.old (h:TopI c s b Pr w0 w):TopI c s b (fun x=>Pr x∨w.heap.size≤x) w0 w:=by
 obtain⟨F,h1,h2,h3⟩:=h
 exact⟨F,h1,fun x h=>⟨(h2 x h).1,(h2 x h).2.1,fun e=>by
  rcases e with e | e
  ·exact(h2 x h).2.2 e
  ·have:=(h2 x h).2.1;omega⟩,h3⟩
theorem TopI.mono {Pr':Set_} (h:TopI c s b Pr w0 w) (hp:∀ x,Pr' x->Pr x):TopI c s b Pr' w0 w:=by
 obtain⟨F,h1,h2,h3⟩:=h
 exact⟨F,h1,fun x h=>⟨(h2 x h).1,(h2 x h).2.1,fun e=>(h2 x h).2.2 (hp x e)⟩,h3⟩
theorem TopI.out (h:TopI c s b Pr w0 w):Below w0.heap.size w0 w:=by
 obtain⟨F,-,-,h3⟩:=h
 exact h3
end
theorem own_apart_map {α:Type} {E:El α} {v:Value} {xs:List α} {W:Go.World} {g:Nat} {es:Array MapEntry} {ck:Nat} (h:OwnE E v xs W) (hb:W.heap[g]?=some (.map es ck)):g∉foot v:=fun hx=>by
 rcases h.cases with ⟨rfl,-⟩ | ⟨g',cap,cur,rfl,hg,-⟩
 ·simp[foot_nil] at hx
 ·simp only[foot_slice,List.mem_singleton] at hx
  rw[<- hx,hb] at hg
  simp at hg
theorem MapI.ks {f:Int->Int} {b:Nat} {G:Set_} {w w':Go.World} (h:MapI f b w) (hk:KS G w w') (hG:¬ G b):MapI f b w':=by
 obtain⟨es,ck,g,h1,h2,h3⟩:=h
 exact⟨es,ck,g,hk.at_ h1 hG,h2,h3⟩
theorem MapI.new (w:Go.World):MapI (fun _=>0) w.heap.size (w.alloc (.map #[] 0)):=⟨#[],0,fun _=>none,blk_new w _,IM.empty,fun _=>rfl⟩
def KnownM (A:Int->S.Act) (b:Nat) (w:Go.World):Prop:=∃ es ck,∃ g:Int->Option S.Act,w.heap[b]?=some (.map es ck)/\IM es ck (fun k=>(g k).map actV)/\∀ k a,g k=some a->a=A k
theorem KnownM.new (A:Int->S.Act) (w:Go.World):KnownM A w.heap.size (w.alloc (.map #[] 0)):=⟨#[],0,fun _=>none,blk_new w _,IM.empty,fun _ _ h=>by cases h⟩
theorem KnownM.ks {A:Int->S.Act} {b:Nat} {G:Set_} {w w':Go.World} (h:KnownM A b w) (hk:KS G w w') (hG:¬ G b):KnownM A b w':=by
 obtain⟨es,ck,g,h1,h2,h3⟩:=h
 exact⟨es,ck,g,hk.at_ h1 hG,h2,h3⟩
theorem KnownM.look {A:Int->S.Act} {b:Nat} {w:Go.World} (h:KnownM A b w) (k:Int):∃ ok:Bool,∃ a:S.Act,(Instr.lookup 43 (.map (some b)) (.int .i64 k) true).run Tryz.prog w=.ok (.tuple #[actV a,.bool ok]) w/\(ok=true->a=A k):=by
 obtain⟨es,ck,g,h1,h2,h3⟩:=h
 have:=h2.look2 (P:=Tryz.prog) h1 under43 under3 (zero55 w) k
 cases e:g k with
 | none=>exact⟨false,act0,by rw[this,e];rfl,fun h=>by cases h⟩
 | some a=>exact⟨true,a,by rw[this,e];rfl,fun _=>h3 k a e⟩
theorem KnownM.put {A:Int->S.Act} {b:Nat} {w:Go.World} (h:KnownM A b w) (k:Int):∃ es ck,(Instr.mapUpdate 43 (.map (some b)) (.int .i64 k) (actV (A k))).run Tryz.prog w=.ok () (setBlock w b (.map es ck))/\KnownM A b (setBlock w b (.map es ck)):=by
 obtain⟨es,ck,g,h1,h2,h3⟩:=h
 obtain⟨es',ck',hr,hi⟩:=h2.put (P:=Tryz.prog) h1 under43 under3 k (actV (A k))
 refine⟨es',ck',hr,es',ck',fun j=>if j=k then some (A k) else g j,set_at h1 _,?_,fun j a hj=>?_⟩
 ·have e:(fun j=>(if j=k then some (A k) else g j:Option S.Act).map actV)=fput (fun j=>(g j).map actV) k (actV (A k)):=by
   funext j
   unfold fput
   by_cases q:j=k
   ·rw[if_pos q,if_pos q,Option.map_some]
   ·rw[if_neg q,if_neg q]
  rw[e];exact hi
 ·have hj':(if j=k then some (A k) else g j)=some a:=hj
  by_cases q:j=k
  ·rw[if_pos q] at hj'
   rw[q];exact(Option.some.inj hj').symm
  ·rw[if_neg q] at hj'
   exact h3 j a hj'
structure ShotQ (s:S.World) (Ap Af:Option Addr) (cp cf:Nat) (ps:List PlaceR) (w:Go.World):Prop where
 pls:OwnE placeE (.slice Ap ps.length cp) ps w
 len:ps.length=s.nodes.length
 fl:OwnE letE (.slice Af s.way.length cf) s.way w
 lns:∀ i:Nat,i < ps.length->∃ A n c,(ps.getD i placeE.d).lines=.slice A n c
 acs:∀ i:Nat,i < ps.length->∃ (A:Option Addr) (c:Nat) (L:List Int),(ps.getD i placeE.d).acts=.slice A L.length c/\OwnE actE (.slice A L.length c) (L.map (Table.actOf (s.nodes.getD i (S.Node.new i)).know)) w/\∀ k∈L,((s.nodes.getD i (S.Node.new i)).know.act k).isSome=true
theorem ShotQ.of {s:S.World} {Ap Ah Af:Option Addr} {np cp nh ch nf cf:Nat} {ps:List PlaceR} {B:Nat} {w:Go.World} (h:ShotV s Ap Ah Af np cp nh ch nf cf ps B w):np=ps.length/\nf=s.way.length/\ShotQ s Ap Af cp cf ps w:=by
 obtain⟨h1,h2,h3,h4,h5,h6,h7,h8⟩:=h
 subst h2 h8
 refine⟨rfl,rfl,h1,h3,h6,fun i hi=>?_,fun i hi=>?_⟩
 ·obtain⟨⟨ks,-,-,ho⟩,-⟩:=(h4.ok i hi).2.2.1
  obtain⟨A,c,e,-⟩:=ho.row
  exact⟨A,_,c,e⟩
 ·obtain⟨⟨L,-,hL,ho⟩,-⟩:=(h4.ok i hi).2.2.2
  obtain⟨A,c,e,-⟩:=ho.row
  rw[List.length_map] at e
  exact⟨A,c,L,e,e ▸ ho,fun k hk=>(hL k).1 hk⟩
theorem ShotQ.ks {s:S.World} {Ap Af:Option Addr} {cp cf:Nat} {ps:List PlaceR} {G:Set_} {w w':Go.World} (h:ShotQ s Ap Af cp cf ps w) (hk:KS G w w') (hG:∀ x,G x->∃ es ck,w.heap[x]?=some (.map es ck)):ShotQ s Ap Af cp cf ps w':=by
 refine⟨h.pls.ks hk fun x hx g=>?_,h.len,h.fl.ks hk fun x hx g=>?_,h.lns,fun i hi=>?_⟩
 ·obtain⟨es,ck,e⟩:=hG x g;exact own_apart_map h.pls e hx
 ·obtain⟨es,ck,e⟩:=hG x g;exact own_apart_map h.fl e hx
 ·obtain⟨A,c,L,e,ho,hl⟩:=h.acs i hi
  exact⟨A,c,L,e,ho.ks hk (fun x hx g=>by obtain⟨es,ck,e⟩:=hG x g;exact own_apart_map ho e hx),hl⟩
theorem entry_at {l:List Ent} {A:Option Addr} {w:Go.World} (h:RowE entE w A l) {i:Nat} (hi:i < l.length):∃ ad,A=some ad/\w.cell? (ad.add (i * 5))=some (.int .i64 (l.getD i ent0).kind)/\w.cell? ⟨(ad.add (i * 5)).block,(ad.add (i * 5)).off+1,none⟩=some (.int .i64 (l.getD i ent0).a)/\w.cell? ⟨(ad.add (i * 5)).block,(ad.add (i * 5)).off+2,none⟩=some (.int .i64 (l.getD i ent0).b)/\w.cell? ⟨(ad.add (i * 5)).block,(ad.add (i * 5)).off+3,none⟩=some (.int .i64 (l.getD i ent0).c)/\w.cell? ⟨(ad.add (i * 5)).block,(ad.add (i * 5)).off+4,none⟩=some (.int .i64 (l.getD i ent0).d):=by
 obtain⟨ad,rfl,hc⟩:=h i hi
 have d0:=hc 0 (by decide)
 have d1:=hc 1 (by decide)
 have d2:=hc 2 (by decide)
 have d3:=hc 3 (by decide)
 have d4:=hc 4 (by decide)
 rw[show entE.k=5 from rfl] at d0 d1 d2 d3 d4
 rw[<- Go.Deep.add_add] at d1 d2 d3 d4
 refine⟨ad,rfl,d0,?_,?_,?_,?_⟩
 ·have:(ad.add (i * 5)).add 1=⟨(ad.add (i * 5)).block,(ad.add (i * 5)).off+1,none⟩:=by simp[Addr.add]
  rw[<- this];exact d1
 ·have:(ad.add (i * 5)).add 2=⟨(ad.add (i * 5)).block,(ad.add (i * 5)).off+2,none⟩:=by simp[Addr.add]
  rw[<- this];exact d2
 ·have:(ad.add (i * 5)).add 3=⟨(ad.add (i * 5)).block,(ad.add (i * 5)).off+3,none⟩:=by simp[Addr.add]
  rw[<- this];exact d3
 ·have:(ad.add (i * 5)).add 4=⟨(ad.add (i * 5)).block,(ad.add (i * 5)).off+4,none⟩:=by simp[Addr.add]
  rw[<- this];exact d4
theorem played_ok {c:Cfg} {n:Nat} (h:played c n=true):c.check=0/\n≤300:=by
 unfold played great18 at h
 simp only[Bool.and_eq_true,beq_iff_eq,Bool.not_eq_true',Bool.or_eq_false_iff,decide_eq_false_iff_not] at h
 exact⟨h.1,by omega⟩
end Go.Proofs.YtiebppkhaiofeaaGreat.K
