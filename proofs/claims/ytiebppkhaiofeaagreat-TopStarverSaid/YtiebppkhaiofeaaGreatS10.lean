/- Part of the proof of TopStarver: what functions of the program do. -/
import Derived.Laws.StructEq
import Derived.Test.YtiebppkhaiofeaaGreatS09
set_option maxHeartbeats 4000000
set_option maxRecDepth 100000
set_option linter.unusedVariables false
set_option linter.unusedSimpArgs false
namespace Go.Proofs.YtiebppkhaiofeaaGreat.K
open Go.RowKit Go.Proofs.YtiebppkhaiofeaaGreatW.PrintWords Go.Proofs.YtiebppkhaiofeaaGreat.S
attribute [local go_sem] World.cell?_alloc_some
open Go.ChangeMaps Go.MapKept
theorem nodeOwn_any {c:Cfg} {n:S.Node} {p:NPtr} {K:Nat->Nat} {w:Go.World} (hN:NodeK c n p K w) (b:Int):Calls Tryz.prog 133 #[.pointer (some ⟨p.b,0,none⟩),.int .i64 b] w (RV (.tuple #[actV (Table.actOf n.know b),.bool (n.own b).isSome]) w):=by
 obtain⟨h1,h2,h3,h4,h5,h6,h7,h8,h9,h10⟩:=hN
 have hlt:=blk_lt h1
 have X:=AS (blk_alloc h1 (.cells #[.int .i64 0,.int .i64 0,.int .i64 0] 55))
 have Y:=AS (blk_new w (.cells #[.int .i64 0,.int .i64 0,.int .i64 0] 55))
 have B:=AS (below_alloc (Below.refl w.heap.size w) (.cells #[.int .i64 0,.int .i64 0,.int .i64 0] 55))
 have TA:=AS (tabActive_any (h4.keep (KS.below (fun _=>False) (below_alloc (Below.refl w.heap.size w) (.cells #[.int .i64 0,.int .i64 0,.int .i64 0] 55))) (fun x hx hF=>⟨hF,id⟩)) b)
 rw[own_eq]
 generalize (n.know.act b).isSome=ok at *
 generalize Table.actOf n.know b=act at *
 obtain⟨a0,a1,a2⟩:=act
 show Calls Tryz.prog 133 _ w (RV (.tuple #[.agg #[.int .i64 a0,.int .i64 a1,.int .i64 a2],.bool (ok && decide (a1=n.id))]) w)
 have hav:actV ⟨a0,a1,a2⟩=.agg #[.int .i64 a0,.int .i64 a1,.int .i64 a2]:=rfl
 rw[hav] at TA
 have CE:=AS (show ∀ W':Go.World,W'.heap[p.b]?=some (.cells (nodeC c n p) 133 (0,0))->W'.cell? ⟨p.b,9,none⟩=some (.int .i64 n.id)/\W'.cell? ⟨p.b,11,none⟩=some (.pointer (some ⟨p.bt,0,none⟩)) from fun W' h=>⟨cw h 9,cw h 11⟩)
 clear hav h1 h2 h3 h4 h5 h6 h7 h8 h9 h10
 generalize nodeC c n p=NC at *
 generalize p.b=pb at *
 generalize p.bt=bt at *
 generalize n.id=id_ at *
 go_enter Tryz.func133,Tryz.ntmps133
 go_upto_region 1 with fail
 generalize w.alloc (.cells #[.int .i64 0,.int .i64 0,.int .i64 0] 55)=W at X Y B TA ⊢
 have c0:W.cell? ⟨pb,11,none⟩=some (.pointer (some ⟨bt,0,none⟩)):=(CE.out _ X.out).2
 go_wp2_with fail
 refine TA.out.mono ?_
 rintro e w2 ⟨rfl,hb2⟩
 have HW:=blk_lt Y.out
 have hs2:=hb2.size
 have X2:=AS (blk_below X.out hb2)
 have Y2:=AS (blk_below Y.out hb2)
 have B2:=AS (B.out.trans (show Below w.heap.size W w2 from hb2.mono (by omega)))
 clear hb2 c0 X Y B TA
 go_upto_region 2 with fail
 have NB:=AS (blk_new w2 (.cells #[.int .i64 a0,.int .i64 a1,.int .i64 a2] 55))
 have XB:=AS (blk_alloc X2.out (.cells #[.int .i64 a0,.int .i64 a1,.int .i64 a2] 55))
 have YB:=AS (blk_alloc Y2.out (.cells #[.int .i64 a0,.int .i64 a1,.int .i64 a2] 55))
 have BB:=AS (below_alloc B2.out (.cells #[.int .i64 a0,.int .i64 a1,.int .i64 a2] 55))
 have hv2:=blk_lt Y2.out
 have hx2:=blk_lt X2.out
 clear X2 Y2 B2
 generalize hg:w2.heap.size=g at *
 generalize w2.alloc (.cells #[.int .i64 a0,.int .i64 a1,.int .i64 a2] 55)=W3 at NB XB YB BB ⊢
 have c9:W3.cell? ⟨pb,9,none⟩=some (.int .i64 id_):=(CE.out _ XB.out).1
 have a_0:=cw NB.out 0 (v:=.int .i64 a0)
 have a_1:=cw NB.out 1 (v:=.int .i64 a1)
 have a_2:=cw NB.out 2 (v:=.int .i64 a2)
 have y0:=cw YB.out 0 (v:=.int .i64 0)
 have y1:=cw YB.out 1 (v:=.int .i64 0)
 have y2:=cw YB.out 2 (v:=.int .i64 0)
 have z0:=blk_frozen YB.out 0
 have z1:=blk_frozen YB.out 1
 have z2:=blk_frozen YB.out 2
 go_cut [4,5] (fun v4 v5 wx=>v4=.pointer (some ⟨w.heap.size,0,none⟩)/\v5=.bool (ok && decide (a1=id_))/\wx.heap[w.heap.size]?=some (.cells #[.int .i64 a0,.int .i64 a1,.int .i64 a2] 55)/\Below w.heap.size w wx)
 case first =>
  have DR:=AS (show ok=ok from rfl)
  cases ok
  all_goals
   go_region
   all_goals
    go_wp2_with fail
    go_meet
    have q0:=YB.out
    have q1:=blk_set q0 0 (.int .i64 a0)
    have q2:=blk_set q1 1 (.int .i64 a1)
    have q3:=blk_set q2 2 (.int .i64 a2)
    refine⟨rfl,?_,(blk_drew q3).trans (by simp),?_⟩
    ·first | rfl | simp[go_sem] | (simp[eq_comm,go_sem])
    ·exact Below.drew (by repeat (first | with_reducible exact BB.out | with_reducible refine Below.setCell ?_ (by dsimp only;omega) _))
 case rest =>
  obtain⟨rfl,rfl,hcut,hb⟩:=hcut
  have HB:=AS hb
  clear hb a_0 a_1 a_2 y0 y1 y2 z0 z1 z2 c9 NB XB YB BB
  have y0:=cw hcut 0 (v:=.int .i64 a0)
  have y1:=cw hcut 1 (v:=.int .i64 a1)
  have y2:=cw hcut 2 (v:=.int .i64 a2)
  clear hcut
  go_wp2
  exact bodyPost_ret (v:=.tuple #[.agg #[.int .i64 a0,.int .i64 a1,.int .i64 a2],.bool (ok && decide (a1=id_))]) (by simp[results,Tryz.results133,go_sem,y0,y1,y2]) rfl ⟨rfl,HB.out⟩
theorem nodeOther_any {c:Cfg} {n:S.Node} {p:NPtr} {K:Nat->Nat} {w:Go.World} (hN:NodeK c n p K w) (b:Int):Calls Tryz.prog 129 #[.pointer (some ⟨p.b,0,none⟩),.int .i64 b] w (RV (.tuple #[.int .i64 (Table.actOf n.know b).node,.bool (n.other b).isSome]) w):=by
 obtain⟨h1,h2,h3,h4,h5,h6,h7,h8,h9,h10⟩:=hN
 have hlt:=blk_lt h1
 have X:=AS h1
 have TA:=AS (tabActive_any h4 b)
 rw[other_eq]
 generalize (n.know.act b).isSome=ok at *
 generalize Table.actOf n.know b=act at *
 obtain⟨a0,a1,a2⟩:=act
 show Calls Tryz.prog 129 _ w (RV (.tuple #[.int .i64 a1,.bool (ok && decide (a1≠n.id))]) w)
 have hav:actV ⟨a0,a1,a2⟩=.agg #[.int .i64 a0,.int .i64 a1,.int .i64 a2]:=rfl
 rw[hav] at TA
 have CE:=AS (show ∀ W':Go.World,W'.heap[p.b]?=some (.cells (nodeC c n p) 133 (0,0))->W'.cell? ⟨p.b,9,none⟩=some (.int .i64 n.id)/\W'.cell? ⟨p.b,11,none⟩=some (.pointer (some ⟨p.bt,0,none⟩)) from fun W' h=>⟨cw h 9,cw h 11⟩)
 clear hav h1 h2 h3 h4 h5 h6 h7 h8 h9 h10
 generalize nodeC c n p=NC at *
 generalize p.b=pb at *
 generalize p.bt=bt at *
 generalize n.id=id_ at *
 have c0:w.cell? ⟨pb,11,none⟩=some (.pointer (some ⟨bt,0,none⟩)):=(CE.out _ X.out).2
 go_enter Tryz.func129,Tryz.ntmps129
 go_wp2_with fail
 refine TA.out.mono ?_
 rintro e w2 ⟨rfl,hb2⟩
 have hs2:=hb2.size
 have X2:=AS (blk_below X.out hb2)
 have B2:=AS hb2
 clear hb2 c0 X TA
 go_upto_region 2 with fail
 have NB:=AS (blk_new w2 (.cells #[.int .i64 a0,.int .i64 a1,.int .i64 a2] 55))
 have XB:=AS (blk_alloc X2.out (.cells #[.int .i64 a0,.int .i64 a1,.int .i64 a2] 55))
 have BB:=AS (below_alloc B2.out (.cells #[.int .i64 a0,.int .i64 a1,.int .i64 a2] 55))
 clear X2 B2
 generalize hg:w2.heap.size=g at *
 generalize w2.alloc (.cells #[.int .i64 a0,.int .i64 a1,.int .i64 a2] 55)=W3 at NB XB BB ⊢
 have c9:W3.cell? ⟨pb,9,none⟩=some (.int .i64 id_):=(CE.out _ XB.out).1
 have a_0:=cw NB.out 0 (v:=.int .i64 a0)
 have a_1:=cw NB.out 1 (v:=.int .i64 a1)
 have a_2:=cw NB.out 2 (v:=.int .i64 a2)
 go_cut [4,5] (fun v4 v5 wx=>v4=.int .i64 a1/\v5=.bool (ok && decide (a1≠id_))/\Below w.heap.size w wx)
 case first =>
  cases ok
  all_goals
   go_region
   all_goals
    go_wp2_with fail
    go_meet
    refine⟨rfl,?_,Below.drew BB.out⟩
    first | rfl | (simp[go_sem];done) | (simp[eq_comm,go_sem];done) | (by_cases he:a1=id_ <;> simp[he,bne,go_sem])
 case rest =>
  obtain⟨rfl,rfl,hb⟩:=hcut
  have HB:=AS hb
  clear hb
  go_wp2
  exact bodyPost_ret (v:=.tuple #[.int .i64 a1,.bool (ok && decide (a1≠id_))]) (by simp[results,Tryz.results129,go_sem]) rfl ⟨rfl,HB.out⟩
end Go.Proofs.YtiebppkhaiofeaaGreat.K
namespace Go.Proofs.YtiebppkhaiofeaaGreat.K
open Go.RowKit Go.Proofs.YtiebppkhaiofeaaGreatW.PrintWords Go.Proofs.YtiebppkhaiofeaaGreat.S
theorem config_any (c:Cfg) (w:Go.World):Calls Tryz.prog 21 #[cfgV c] w (RV (.int .i64 c.check) w):=by
 obtain⟨n,b,t,se,wa,ca,wt,tr,po⟩:=c
 simp only[cfgV]
 go_enter Tryz.func21,Tryz.ntmps21
 go_wp2_with (go_at_call 45;refine(within_any _ _ _ _).mono ?_;rintro e w' ⟨rfl,rfl⟩)
 all_goals
  go_ret
  exact RV.of (by unfold Cfg.check;(repeat' split) <;> first | rfl | (exfalso;simp_all;done) | (exfalso;simp_all;omega)) (by repeat (with_reducible first | exact Below.refl _ _ | assumption | apply below_alloc))
theorem endOk_any (c:Cfg) (a:Int) (h n:Bool) (w:Go.World):Calls Tryz.prog 115 #[cfgV c,.int .i64 a,.bool h,.bool n] w (RV (.bool (endOk c a h n)) w):=by
 obtain⟨nn,b,t,se,wa,ca,wt,tr,po⟩:=c
 simp only[cfgV]
 go_enter Tryz.func115,Tryz.ntmps115
 go_wp2
 all_goals
  go_ret
  exact RV.of (by simp[endOk, *] <;> omega) (by repeat (with_reducible first | exact Below.refl _ _ | assumption | apply below_alloc))
def krowV (r:KRow):Value:=.agg #[.bool r.fromHome,.bool r.fromNode,.bool r.toHome,.bool r.toNode,.bool r.seq,.bool r.who,.bool r.write,.bool r.tokens]
theorem idx257 {i:Int} {cs:Array Value} {v:Value} (h1:0≤i) (h2:i < 8) (hv:Value.agg (cs.extract (i.toNat * 8) (i.toNat * 8+8))=v) (w:Go.World):(Instr.index 257 (.agg cs) (.int .i64 i)).run Tryz.prog w=.ok v w:=by
 have hu:Tryz.prog.underlying 257=some (.array 8 228):=by kernel_rfl
 have hs:∃ fs,Tryz.prog.underlying 228=some (.struct fs):=by
  have h:(match Tryz.prog.underlying 228 with | some (.struct _)=>true | _=>false)=true:=by kernel_rfl
  split at h
  ·rename_i fs hfs;exact⟨fs,hfs⟩
  ·cases h
 obtain⟨fs,hs⟩:=hs
 obtain⟨i0,hi,hz0,hz1,hz2⟩:=info_parts (show(Tryz.prog.info? 228).map (fun i=>(i.zero,i.size,i.bytes))=some (some (.agg #[.bool false,.bool false,.bool false,.bool false,.bool false,.bool false,.bool false,.bool false]),8,8) by kernel_rfl)
 simp[Instr.index,asIntOf,run_underlying hu,run_underlying hs,isAgg,part,sizeOf,typeInfo,hi,hz1,Result.andThen,h1,h2,hv]
def rowsV (k:Int):Value:=if k < 1∨k > 7 then .tuple #[krowV kr0,.bool false] else .tuple #[krowV (rowsK k),.bool true]
theorem rows_any (k:Int) (w:Go.World):Calls Tryz.prog 114 #[.int .i64 k] w (RV (rowsV k) w):=by
 by_cases h1:k < 1∨k > 7
 ·rw[show rowsV k=.tuple #[krowV kr0,.bool false] from if_pos h1]
  rcases h1 with h1 | h1
  all_goals
   go_enter Tryz.func114,Tryz.ntmps114
   go_wp2
   exact bodyPost_ret (v:=.tuple #[krowV kr0,.bool false]) (by simp[results,Tryz.results114,go_sem,krowV,kr0]) rfl ⟨rfl,by repeat (with_reducible first | exact Below.refl _ _ | assumption | apply below_alloc)⟩
 ·rw[show rowsV k=.tuple #[krowV (rowsK k),.bool true] from if_neg h1]
  have hk:k=1∨k=2∨k=3∨k=4∨k=5∨k=6∨k=7:=by omega
  clear h1
  rcases hk with rfl | rfl | rfl | rfl | rfl | rfl | rfl
  ·go_enter Tryz.func114,Tryz.ntmps114
   go_wp2_with fail
   rw[idx257 (v:=.agg #[.bool true,.bool true,.bool true,.bool true,.bool false,.bool false,.bool false,.bool true]) (by decide) (by decide) ?hv]
   case hv=>rfl
   go_wp2
   exact bodyPost_ret (v:=.tuple #[krowV (rowsK 1),.bool true]) (by simp[results,Tryz.results114,go_sem,krowV,rowsK]) rfl ⟨rfl,by repeat (with_reducible first | exact Below.refl _ _ | assumption | apply below_alloc)⟩
  ·go_enter Tryz.func114,Tryz.ntmps114
   go_wp2_with fail
   rw[idx257 (v:=.agg #[.bool false,.bool true,.bool true,.bool true,.bool false,.bool false,.bool true,.bool false]) (by decide) (by decide) ?hv]
   case hv=>rfl
   go_wp2
   exact bodyPost_ret (v:=.tuple #[krowV (rowsK 2),.bool true]) (by simp[results,Tryz.results114,go_sem,krowV,rowsK]) rfl ⟨rfl,by repeat (with_reducible first | exact Below.refl _ _ | assumption | apply below_alloc)⟩
  ·go_enter Tryz.func114,Tryz.ntmps114
   go_wp2_with fail
   rw[idx257 (v:=.agg #[.bool false,.bool true,.bool true,.bool false,.bool false,.bool false,.bool false,.bool false]) (by decide) (by decide) ?hv]
   case hv=>rfl
   go_wp2
   exact bodyPost_ret (v:=.tuple #[krowV (rowsK 3),.bool true]) (by simp[results,Tryz.results114,go_sem,krowV,rowsK]) rfl ⟨rfl,by repeat (with_reducible first | exact Below.refl _ _ | assumption | apply below_alloc)⟩
  ·go_enter Tryz.func114,Tryz.ntmps114
   go_wp2_with fail
   rw[idx257 (v:=.agg #[.bool true,.bool false,.bool false,.bool true,.bool true,.bool true,.bool false,.bool false]) (by decide) (by decide) ?hv]
   case hv=>rfl
   go_wp2
   exact bodyPost_ret (v:=.tuple #[krowV (rowsK 4),.bool true]) (by simp[results,Tryz.results114,go_sem,krowV,rowsK]) rfl ⟨rfl,by repeat (with_reducible first | exact Below.refl _ _ | assumption | apply below_alloc)⟩
  ·go_enter Tryz.func114,Tryz.ntmps114
   go_wp2_with fail
   rw[idx257 (v:=.agg #[.bool false,.bool true,.bool true,.bool false,.bool true,.bool false,.bool false,.bool false]) (by decide) (by decide) ?hv]
   case hv=>rfl
   go_wp2
   exact bodyPost_ret (v:=.tuple #[krowV (rowsK 5),.bool true]) (by simp[results,Tryz.results114,go_sem,krowV,rowsK]) rfl ⟨rfl,by repeat (with_reducible first | exact Below.refl _ _ | assumption | apply below_alloc)⟩
  ·go_enter Tryz.func114,Tryz.ntmps114
   go_wp2_with fail
   rw[idx257 (v:=.agg #[.bool true,.bool false,.bool false,.bool true,.bool true,.bool false,.bool false,.bool false]) (by decide) (by decide) ?hv]
   case hv=>rfl
   go_wp2
   exact bodyPost_ret (v:=.tuple #[krowV (rowsK 6),.bool true]) (by simp[results,Tryz.results114,go_sem,krowV,rowsK]) rfl ⟨rfl,by repeat (with_reducible first | exact Below.refl _ _ | assumption | apply below_alloc)⟩
  ·go_enter Tryz.func114,Tryz.ntmps114
   go_wp2_with fail
   rw[idx257 (v:=.agg #[.bool false,.bool true,.bool true,.bool false,.bool true,.bool false,.bool false,.bool false]) (by decide) (by decide) ?hv]
   case hv=>rfl
   go_wp2
   exact bodyPost_ret (v:=.tuple #[krowV (rowsK 7),.bool true]) (by simp[results,Tryz.results114,go_sem,krowV,rowsK]) rfl ⟨rfl,by repeat (with_reducible first | exact Below.refl _ _ | assumption | apply below_alloc)⟩
theorem form_any (c:Cfg) (l:Let) (r:KRow) (w:Go.World):Calls Tryz.prog 116 #[cfgV c,letV l,krowV r] w (RV (.bool (formOk c l r)) w):=by
 obtain⟨nn,b,t,se,wa,ca,wt,tr,po⟩:=c
 obtain⟨k,f,dd,bl,q,wh,wr,⟨ct,ow,ha,da⟩⟩:=l
 obtain⟨r1,r2,r3,r4,r5,r6,r7,r8⟩:=r
 cases r5 <;> cases r6 <;> cases r7 <;> cases wr
 all_goals
  simp only[cfgV,letV,krowV]
  go_enter Tryz.func116,Tryz.ntmps116
  go_wp2_with (go_at_call 115;refine(endOk_any ⟨nn,b,t,se,wa,ca,wt,tr,po⟩ wh false true _).mono ?_;rintro e w1 ⟨rfl,hb⟩;obtain⟨hcl,hfr⟩:=bcell hb;have HB:=AS hb;clear hb;generalize hq:endOk ⟨nn,b,t,se,wa,ca,wt,tr,po⟩ wh false true=eo at *;cases eo)
  all_goals
   go_ret
   exact RV.of (by simp[formOk, *] <;> omega) (by repeat (first | exact Below.refl _ _ | apply below_alloc | exact(below_alloc (below_alloc (below_alloc (Below.refl _ w) _) _) _).trans (HB.out.mono (by simp;omega))))
end Go.Proofs.YtiebppkhaiofeaaGreat.K
namespace Go.Proofs.YtiebppkhaiofeaaGreatW.PrintWords
open Go.RowKit
section
variable {P:Program} {d:Nat} {xs ys:Array Value} {f:Field} {fs:List Field} {a b:Value} {r s:Bool} {w:World}
theorem eqf_last (hn:(f.name == "_")=false) (ha:(part f.type xs f.offset).run P w=.ok a w) (hb:(part f.type ys f.offset).run P w=.ok b w) (he:(Op.equalIn d f.type a b).run P w=.ok r w):(Op.eqFields d xs ys [f]).run P w=.ok r w:=by
 have hn':f.name≠"_":=by simpa using hn
 simp only[Op.eqFields,if_pos hn',Sem.run_bind,ha,hb,he,Result.andThen_ok]
 cases r <;> simp
theorem eqf_cons (hn:(f.name == "_")=false) (ha:(part f.type xs f.offset).run P w=.ok a w) (hb:(part f.type ys f.offset).run P w=.ok b w) (he:(Op.equalIn d f.type a b).run P w=.ok r w) (hr:(Op.eqFields d xs ys fs).run P w=.ok s w):(Op.eqFields d xs ys (f :: fs)).run P w=.ok (r && s) w:=by
 have hn':f.name≠"_":=by simpa using hn
 rw[Op.eqFields]
 simp only[if_pos hn',Sem.run_bind,ha,hb,he,Result.andThen_ok]
 cases r
 ·simp
 ·simpa using hr
theorem eqA_of {t:TypeId} {fs:Array Field} (hu:P.underlying t=some (.struct fs)) (hp:P.stoodInHeld t=false) (h:(Op.eqFields d xs ys fs.toList).run P w=.ok r w):(Op.equalIn (d+1) t (.agg xs) (.agg ys)).run P w=.ok r w:=by
 have hf:P.fieldsOf t=fs:=by simp[Program.fieldsOf,hu]
 rw[run_equalIn_struct (P:=P) w d t xs ys (by rw[hf];exact hu) hp,hf]
 exact h
end
end Go.Proofs.YtiebppkhaiofeaaGreatW.PrintWords
namespace Go.Proofs.YtiebppkhaiofeaaGreat.K
open Go.RowKit Go.Proofs.YtiebppkhaiofeaaGreatW.PrintWords Go.Proofs.YtiebppkhaiofeaaGreat.S
attribute [local go_sem] World.cell?_alloc_some
theorem eqA45 (d:Nat) (w:Go.World) (c1 c2 d1 d2:Int) (o1 o2 h1 h2:Bool) :
  (Go.Op.equalIn (d+2) 45 (.agg #[.int .i64 c1,.bool o1,.bool h1,.int .i64 d1]) (.agg #[.int .i64 c2,.bool o2,.bool h2,.int .i64 d2])).run Tryz.prog w=.ok (c1 == c2 && (o1 == o2 && (h1 == h2 && (d1 == d2)))) w:=by
 refine eqA_of Tryz.underlying45 (by kernel_rfl) ?_
 refine eqf_cons (by rfl) (by go_simp;rfl) (by go_simp;rfl) (by go_simp) ?_
 refine eqf_cons (by rfl) (by go_simp;rfl) (by go_simp;rfl) (by go_simp) ?_
 refine eqf_cons (by rfl) (by go_simp;rfl) (by go_simp;rfl) (by go_simp) ?_
 exact eqf_last (by rfl) (by go_simp;rfl) (by go_simp;rfl) (by go_simp)
theorem neq45 (w:Go.World) (c1 c2 d1 d2:Int) (o1 o2 h1 h2:Bool) :
  (binOp .neq 45 (.agg #[.int .i64 c1,.bool o1,.bool h1,.int .i64 d1]) (.agg #[.int .i64 c2,.bool o2,.bool h2,.int .i64 d2])).run Tryz.prog w=.ok (.bool (!(c1 == c2 && (o1 == o2 && (h1 == h2 && (d1 == d2)))))) w:=by
 rw[run_neq_struct,eqA45 9998]
 rfl
def chk5 (c:Cfg) (l:Let) (tk:Bool):Int:=if tk=false then (if l.bun.count=0/\l.bun.owner=false/\l.bun.has=false/\l.bun.data=0 then 0 else 6) else if l.bun.check c.tokens≠0∨l.bun.count > 0 then l.bun.check c.tokens else 4
theorem check_eq (c:Cfg) (l:Let) (r:KRow) (hr:rowsK l.kind=r) (hk:¬ (l.kind < 1∨l.kind > 7)) (hb:¬ (l.block < 0∨l.block≥c.blocks)):l.check c=if l.src=l.dst then 8 else if endOk c l.src r.fromHome r.fromNode=false then 8 else if endOk c l.dst r.toHome r.toNode=false then 8 else if formOk c l r=false then 10 else chk5 c l r.tokens:=by
 subst hr
 unfold Let.check chk5
 rw[if_neg hk,if_neg hb]
 by_cases h1:l.src=l.dst
 ·simp[h1]
 ·by_cases h2:endOk c l.src (rowsK l.kind).fromHome (rowsK l.kind).fromNode=false
  ·simp[h1,h2]
  ·by_cases h3:endOk c l.dst (rowsK l.kind).toHome (rowsK l.kind).toNode=false
   ·simp[h1,h2,h3]
   ·simp[h1,h2,h3]
theorem lcheck_any (c:Cfg) (l:Let) (w:Go.World):Calls Tryz.prog 86 #[cfgV c,letV l] w (RV (.int .i64 (l.check c)) w):=by
 obtain⟨nn,b,t,se,wa,ca,wt,tr,po⟩:=c
 obtain⟨k,f,dd,bl,q,wh,wr,⟨ct,ow,ha,da⟩⟩:=l
 generalize hv:Let.check ⟨nn,b,t,se,wa,ca,wt,tr,po⟩ ⟨k,f,dd,bl,q,wh,wr,⟨ct,ow,ha,da⟩⟩=v
 simp only[cfgV,letV]
 have B0:=AS (below_alloc (below_alloc (Below.refl w.heap.size w) (.cells #[.int .i64 nn,.int .i64 b,.int .i64 t,.int .i64 se,.int .i64 wa,.int .i64 ca,.int .i64 wt,.int .i64 tr,.int .i64 po] 23)) (.cells #[.int .i64 k,.int .i64 f,.int .i64 dd,.int .i64 bl,.int .i64 q,.int .i64 wh,.bool wr,.int .i64 ct,.bool ow,.bool ha,.int .i64 da] 47))
 have X0:=AS (show((w.alloc (.cells #[.int .i64 nn,.int .i64 b,.int .i64 t,.int .i64 se,.int .i64 wa,.int .i64 ca,.int .i64 wt,.int .i64 tr,.int .i64 po] 23)).alloc (.cells #[.int .i64 k,.int .i64 f,.int .i64 dd,.int .i64 bl,.int .i64 q,.int .i64 wh,.bool wr,.int .i64 ct,.bool ow,.bool ha,.int .i64 da] 47)).heap[w.heap.size]?=some (.cells #[.int .i64 nn,.int .i64 b,.int .i64 t,.int .i64 se,.int .i64 wa,.int .i64 ca,.int .i64 wt,.int .i64 tr,.int .i64 po] 23)/\((w.alloc (.cells #[.int .i64 nn,.int .i64 b,.int .i64 t,.int .i64 se,.int .i64 wa,.int .i64 ca,.int .i64 wt,.int .i64 tr,.int .i64 po] 23)).alloc (.cells #[.int .i64 k,.int .i64 f,.int .i64 dd,.int .i64 bl,.int .i64 q,.int .i64 wh,.bool wr,.int .i64 ct,.bool ow,.bool ha,.int .i64 da] 47)).heap[w.heap.size+1]?=some (.cells #[.int .i64 k,.int .i64 f,.int .i64 dd,.int .i64 bl,.int .i64 q,.int .i64 wh,.bool wr,.int .i64 ct,.bool ow,.bool ha,.int .i64 da] 47) from⟨blk_alloc (blk_new w _) _,by have:=blk_new (w.alloc (.cells #[.int .i64 nn,.int .i64 b,.int .i64 t,.int .i64 se,.int .i64 wa,.int .i64 ca,.int .i64 wt,.int .i64 tr,.int .i64 po] 23)) (.cells #[.int .i64 k,.int .i64 f,.int .i64 dd,.int .i64 bl,.int .i64 q,.int .i64 wh,.bool wr,.int .i64 ct,.bool ow,.bool ha,.int .i64 da] 47);simpa using this⟩)
 by_cases h1:k < 1∨k > 7
 ·have KV:=AS (show v=7 by rw[<- hv];exact if_pos h1)
  have HR:=AS (show rowsV k=.tuple #[.agg #[.bool false,.bool false,.bool false,.bool false,.bool false,.bool false,.bool false,.bool false],.bool false] from if_pos h1)
  clear h1 hv
  go_enter Tryz.func86,Tryz.ntmps86
  go_upto_region 1 with fail
  generalize ((w.alloc (.cells #[.int .i64 nn,.int .i64 b,.int .i64 t,.int .i64 se,.int .i64 wa,.int .i64 ca,.int .i64 wt,.int .i64 tr,.int .i64 po] 23)).alloc (.cells #[.int .i64 k,.int .i64 f,.int .i64 dd,.int .i64 bl,.int .i64 q,.int .i64 wh,.bool wr,.int .i64 ct,.bool ow,.bool ha,.int .i64 da] 47))=W at B0 X0 ⊢
  have l0:=cw X0.out.2 0 (v:=.int .i64 k)
  go_wp2_with fail
  refine(rows_any k _).mono ?_
  rintro e w1 ⟨rfl,hb⟩
  rw[HR.out]
  have B1:=AS (B0.out.trans (hb.mono B0.out.size))
  clear hb
  go_wp2
  go_ret
  exact RV.of (by rw[KV.out];rfl) (below_alloc B1.out _)
 ·have HR:=AS (show rowsV k=.tuple #[krowV (rowsK k),.bool true] from if_neg h1)
  generalize hr:rowsK k=r at HR
  have CE:=AS (fun hb=>check_eq ⟨nn,b,t,se,wa,ca,wt,tr,po⟩ ⟨k,f,dd,bl,q,wh,wr,⟨ct,ow,ha,da⟩⟩ r hr h1 hb)
  obtain⟨r1,r2,r3,r4,r5,r6,r7,r8⟩:=r
  simp only[krowV] at HR
  go_enter Tryz.func86,Tryz.ntmps86
  go_upto_region 1 with fail
  generalize ((w.alloc (.cells #[.int .i64 nn,.int .i64 b,.int .i64 t,.int .i64 se,.int .i64 wa,.int .i64 ca,.int .i64 wt,.int .i64 tr,.int .i64 po] 23)).alloc (.cells #[.int .i64 k,.int .i64 f,.int .i64 dd,.int .i64 bl,.int .i64 q,.int .i64 wh,.bool wr,.int .i64 ct,.bool ow,.bool ha,.int .i64 da] 47))=W at B0 X0 ⊢
  have l0:=cw X0.out.2 0 (v:=.int .i64 k)
  go_wp2_with fail
  refine(rows_any k _).mono ?_
  rintro e w1 ⟨rfl,hb⟩
  rw[HR.out]
  have X2:=AS (show(w1.alloc (.cells #[.bool r1,.bool r2,.bool r3,.bool r4,.bool r5,.bool r6,.bool r7,.bool r8] 228)).heap[w.heap.size]?=some (.cells #[.int .i64 nn,.int .i64 b,.int .i64 t,.int .i64 se,.int .i64 wa,.int .i64 ca,.int .i64 wt,.int .i64 tr,.int .i64 po] 23)/\(w1.alloc (.cells #[.bool r1,.bool r2,.bool r3,.bool r4,.bool r5,.bool r6,.bool r7,.bool r8] 228)).heap[w.heap.size+1]?=some (.cells #[.int .i64 k,.int .i64 f,.int .i64 dd,.int .i64 bl,.int .i64 q,.int .i64 wh,.bool wr,.int .i64 ct,.bool ow,.bool ha,.int .i64 da] 47)/\(w1.alloc (.cells #[.bool r1,.bool r2,.bool r3,.bool r4,.bool r5,.bool r6,.bool r7,.bool r8] 228)).heap[w1.heap.size]?=some (.cells #[.bool r1,.bool r2,.bool r3,.bool r4,.bool r5,.bool r6,.bool r7,.bool r8] 228)/\Below w.heap.size w (w1.alloc (.cells #[.bool r1,.bool r2,.bool r3,.bool r4,.bool r5,.bool r6,.bool r7,.bool r8] 228)) from⟨blk_alloc (blk_below X0.out.1 hb) _,blk_alloc (blk_below X0.out.2 hb) _,blk_new w1 _,below_alloc (B0.out.trans (hb.mono B0.out.size)) _⟩)
  have HK1:=AS h1
  clear hb l0 h1
  go_upto_region 2 with fail
  generalize w1.heap.size=g3 at X2 ⊢
  generalize w1.alloc (.cells #[.bool r1,.bool r2,.bool r3,.bool r4,.bool r5,.bool r6,.bool r7,.bool r8] 228)=w2 at X2 ⊢
  clear HR X0 B0
  have c0:=cw X2.out.1 0 (v:=.int .i64 nn)
  have c1:=cw X2.out.1 1 (v:=.int .i64 b)
  have c2:=cw X2.out.1 2 (v:=.int .i64 t)
  have c3:=cw X2.out.1 3 (v:=.int .i64 se)
  have c4:=cw X2.out.1 4 (v:=.int .i64 wa)
  have c5:=cw X2.out.1 5 (v:=.int .i64 ca)
  have c6:=cw X2.out.1 6 (v:=.int .i64 wt)
  have c7:=cw X2.out.1 7 (v:=.int .i64 tr)
  have c8:=cw X2.out.1 8 (v:=.int .i64 po)
  have l0:=cw X2.out.2.1 0 (v:=.int .i64 k)
  have l1:=cw X2.out.2.1 1 (v:=.int .i64 f)
  have l2:=cw X2.out.2.1 2 (v:=.int .i64 dd)
  have l3:=cw X2.out.2.1 3 (v:=.int .i64 bl)
  have l4:=cw X2.out.2.1 4 (v:=.int .i64 q)
  have l5:=cw X2.out.2.1 5 (v:=.int .i64 wh)
  have l6:=cw X2.out.2.1 6 (v:=.bool wr)
  have l7:=cw X2.out.2.1 7 (v:=.int .i64 ct)
  have l8:=cw X2.out.2.1 8 (v:=.bool ow)
  have l9:=cw X2.out.2.1 9 (v:=.bool ha)
  have l10:=cw X2.out.2.1 10 (v:=.int .i64 da)
  have r_0:=cw X2.out.2.2.1 0 (v:=.bool r1)
  have r_1:=cw X2.out.2.2.1 1 (v:=.bool r2)
  have r_2:=cw X2.out.2.2.1 2 (v:=.bool r3)
  have r_3:=cw X2.out.2.2.1 3 (v:=.bool r4)
  have r_4:=cw X2.out.2.2.1 4 (v:=.bool r5)
  have r_5:=cw X2.out.2.2.1 5 (v:=.bool r6)
  have r_6:=cw X2.out.2.2.1 6 (v:=.bool r7)
  have r_7:=cw X2.out.2.2.1 7 (v:=.bool r8)
  by_cases h2:bl < 0∨bl≥b
  ·have KV:=AS (show v=3 by rw[<- hv];unfold Let.check;rw[if_neg HK1.out,if_pos h2])
   by_cases h2a:bl < 0
   ·clear h2
    go_wp2
    go_ret
    exact RV.of (by rw[KV.out];rfl) X2.out.2.2.2
   ·have h2b:bl≥b:=by omega
    clear h2
    go_wp2
    go_ret
    exact RV.of (by rw[KV.out];rfl) X2.out.2.2.2
  ·have CE2:=AS (CE.out h2)
   rw[hv] at CE2
   have h2a:¬ bl < 0:=by omega
   have h2b:¬ bl≥b:=by omega
   clear CE h2 hv
   by_cases h3:f=dd
   ·have KV:=AS (show v=8 by rw[CE2.out];exact if_pos h3)
    have h3b:(f == dd)=true:=by simp[h3]
    clear CE2 h3
    go_wp2
    go_ret
    exact RV.of (by rw[KV.out];rfl) X2.out.2.2.2
   ·have h3b:(f == dd)=false:=by simpa using h3
    have CE3:=AS (CE2.out.trans (if_neg h3))
    clear CE2 h3
    go_wp2_with fail
    refine(endOk_any ⟨nn,b,t,se,wa,ca,wt,tr,po⟩ f r1 r2 _).mono ?_
    rintro e w3 ⟨rfl,hb⟩
    have X3:=AS (show w3.heap[w.heap.size]?=some (.cells #[.int .i64 nn,.int .i64 b,.int .i64 t,.int .i64 se,.int .i64 wa,.int .i64 ca,.int .i64 wt,.int .i64 tr,.int .i64 po] 23)/\w3.heap[w.heap.size+1]?=some (.cells #[.int .i64 k,.int .i64 f,.int .i64 dd,.int .i64 bl,.int .i64 q,.int .i64 wh,.bool wr,.int .i64 ct,.bool ow,.bool ha,.int .i64 da] 47)/\w3.heap[g3]?=some (.cells #[.bool r1,.bool r2,.bool r3,.bool r4,.bool r5,.bool r6,.bool r7,.bool r8] 228)/\Below w.heap.size w w3 from⟨blk_below X2.out.1 hb,blk_below X2.out.2.1 hb,blk_below X2.out.2.2.1 hb,X2.out.2.2.2.trans (hb.mono X2.out.2.2.2.size)⟩)
    clear hb
    clear c0 c1 c2 c3 c4 c5 c6 c7 c8 l0 l1 l2 l3 l4 l5 l6 l7 l8 l9 l10 r_0 r_1 r_2 r_3 r_4 r_5 r_6 r_7
    have c0:=cw X3.out.1 0 (v:=.int .i64 nn)
    have c1:=cw X3.out.1 1 (v:=.int .i64 b)
    have c2:=cw X3.out.1 2 (v:=.int .i64 t)
    have c3:=cw X3.out.1 3 (v:=.int .i64 se)
    have c4:=cw X3.out.1 4 (v:=.int .i64 wa)
    have c5:=cw X3.out.1 5 (v:=.int .i64 ca)
    have c6:=cw X3.out.1 6 (v:=.int .i64 wt)
    have c7:=cw X3.out.1 7 (v:=.int .i64 tr)
    have c8:=cw X3.out.1 8 (v:=.int .i64 po)
    have l0:=cw X3.out.2.1 0 (v:=.int .i64 k)
    have l1:=cw X3.out.2.1 1 (v:=.int .i64 f)
    have l2:=cw X3.out.2.1 2 (v:=.int .i64 dd)
    have l3:=cw X3.out.2.1 3 (v:=.int .i64 bl)
    have l4:=cw X3.out.2.1 4 (v:=.int .i64 q)
    have l5:=cw X3.out.2.1 5 (v:=.int .i64 wh)
    have l6:=cw X3.out.2.1 6 (v:=.bool wr)
    have l7:=cw X3.out.2.1 7 (v:=.int .i64 ct)
    have l8:=cw X3.out.2.1 8 (v:=.bool ow)
    have l9:=cw X3.out.2.1 9 (v:=.bool ha)
    have l10:=cw X3.out.2.1 10 (v:=.int .i64 da)
    have r_0:=cw X3.out.2.2.1 0 (v:=.bool r1)
    have r_1:=cw X3.out.2.2.1 1 (v:=.bool r2)
    have r_2:=cw X3.out.2.2.1 2 (v:=.bool r3)
    have r_3:=cw X3.out.2.2.1 3 (v:=.bool r4)
    have r_4:=cw X3.out.2.2.1 4 (v:=.bool r5)
    have r_5:=cw X3.out.2.2.1 5 (v:=.bool r6)
    have r_6:=cw X3.out.2.2.1 6 (v:=.bool r7)
    have r_7:=cw X3.out.2.2.1 7 (v:=.bool r8)
    generalize endOk ⟨nn,b,t,se,wa,ca,wt,tr,po⟩ f r1 r2=e1 at *
    cases e1
    ·have KV:=AS (show v=8 by rw[CE3.out];exact if_pos rfl)
     clear CE3
     go_wp2
     go_ret
     exact RV.of (by rw[KV.out];rfl) X3.out.2.2.2
    ·have CE4:=AS (CE3.out.trans (if_neg (by simp)))
     clear CE3
     go_wp2_with fail
     refine(endOk_any ⟨nn,b,t,se,wa,ca,wt,tr,po⟩ dd r3 r4 _).mono ?_
     rintro e w4 ⟨rfl,hb⟩
     have X4:=AS (show w4.heap[w.heap.size]?=some (.cells #[.int .i64 nn,.int .i64 b,.int .i64 t,.int .i64 se,.int .i64 wa,.int .i64 ca,.int .i64 wt,.int .i64 tr,.int .i64 po] 23)/\w4.heap[w.heap.size+1]?=some (.cells #[.int .i64 k,.int .i64 f,.int .i64 dd,.int .i64 bl,.int .i64 q,.int .i64 wh,.bool wr,.int .i64 ct,.bool ow,.bool ha,.int .i64 da] 47)/\w4.heap[g3]?=some (.cells #[.bool r1,.bool r2,.bool r3,.bool r4,.bool r5,.bool r6,.bool r7,.bool r8] 228)/\Below w.heap.size w w4 from⟨blk_below X3.out.1 hb,blk_below X3.out.2.1 hb,blk_below X3.out.2.2.1 hb,X3.out.2.2.2.trans (hb.mono X3.out.2.2.2.size)⟩)
     clear hb
     clear c0 c1 c2 c3 c4 c5 c6 c7 c8 l0 l1 l2 l3 l4 l5 l6 l7 l8 l9 l10 r_0 r_1 r_2 r_3 r_4 r_5 r_6 r_7
     have c0:=cw X4.out.1 0 (v:=.int .i64 nn)
     have c1:=cw X4.out.1 1 (v:=.int .i64 b)
     have c2:=cw X4.out.1 2 (v:=.int .i64 t)
     have c3:=cw X4.out.1 3 (v:=.int .i64 se)
     have c4:=cw X4.out.1 4 (v:=.int .i64 wa)
     have c5:=cw X4.out.1 5 (v:=.int .i64 ca)
     have c6:=cw X4.out.1 6 (v:=.int .i64 wt)
     have c7:=cw X4.out.1 7 (v:=.int .i64 tr)
     have c8:=cw X4.out.1 8 (v:=.int .i64 po)
     have l0:=cw X4.out.2.1 0 (v:=.int .i64 k)
     have l1:=cw X4.out.2.1 1 (v:=.int .i64 f)
     have l2:=cw X4.out.2.1 2 (v:=.int .i64 dd)
     have l3:=cw X4.out.2.1 3 (v:=.int .i64 bl)
     have l4:=cw X4.out.2.1 4 (v:=.int .i64 q)
     have l5:=cw X4.out.2.1 5 (v:=.int .i64 wh)
     have l6:=cw X4.out.2.1 6 (v:=.bool wr)
     have l7:=cw X4.out.2.1 7 (v:=.int .i64 ct)
     have l8:=cw X4.out.2.1 8 (v:=.bool ow)
     have l9:=cw X4.out.2.1 9 (v:=.bool ha)
     have l10:=cw X4.out.2.1 10 (v:=.int .i64 da)
     have r_0:=cw X4.out.2.2.1 0 (v:=.bool r1)
     have r_1:=cw X4.out.2.2.1 1 (v:=.bool r2)
     have r_2:=cw X4.out.2.2.1 2 (v:=.bool r3)
     have r_3:=cw X4.out.2.2.1 3 (v:=.bool r4)
     have r_4:=cw X4.out.2.2.1 4 (v:=.bool r5)
     have r_5:=cw X4.out.2.2.1 5 (v:=.bool r6)
     have r_6:=cw X4.out.2.2.1 6 (v:=.bool r7)
     have r_7:=cw X4.out.2.2.1 7 (v:=.bool r8)
     generalize endOk ⟨nn,b,t,se,wa,ca,wt,tr,po⟩ dd r3 r4=e2 at *
     cases e2
     ·have KV:=AS (show v=8 by rw[CE4.out];exact if_pos rfl)
      clear CE4
      go_wp2
      go_ret
      exact RV.of (by rw[KV.out];rfl) X4.out.2.2.2
     ·have CE5:=AS (CE4.out.trans (if_neg (by simp)))
      clear CE4
      go_wp2_with fail
      refine(form_any ⟨nn,b,t,se,wa,ca,wt,tr,po⟩ ⟨k,f,dd,bl,q,wh,wr,⟨ct,ow,ha,da⟩⟩ ⟨r1,r2,r3,r4,r5,r6,r7,r8⟩ _).mono ?_
      rintro e w5 ⟨rfl,hb⟩
      have X5:=AS (show w5.heap[w.heap.size]?=some (.cells #[.int .i64 nn,.int .i64 b,.int .i64 t,.int .i64 se,.int .i64 wa,.int .i64 ca,.int .i64 wt,.int .i64 tr,.int .i64 po] 23)/\w5.heap[w.heap.size+1]?=some (.cells #[.int .i64 k,.int .i64 f,.int .i64 dd,.int .i64 bl,.int .i64 q,.int .i64 wh,.bool wr,.int .i64 ct,.bool ow,.bool ha,.int .i64 da] 47)/\w5.heap[g3]?=some (.cells #[.bool r1,.bool r2,.bool r3,.bool r4,.bool r5,.bool r6,.bool r7,.bool r8] 228)/\Below w.heap.size w w5 from⟨blk_below X4.out.1 hb,blk_below X4.out.2.1 hb,blk_below X4.out.2.2.1 hb,X4.out.2.2.2.trans (hb.mono X4.out.2.2.2.size)⟩)
      clear hb
      clear c0 c1 c2 c3 c4 c5 c6 c7 c8 l0 l1 l2 l3 l4 l5 l6 l7 l8 l9 l10 r_0 r_1 r_2 r_3 r_4 r_5 r_6 r_7
      have c0:=cw X5.out.1 0 (v:=.int .i64 nn)
      have c1:=cw X5.out.1 1 (v:=.int .i64 b)
      have c2:=cw X5.out.1 2 (v:=.int .i64 t)
      have c3:=cw X5.out.1 3 (v:=.int .i64 se)
      have c4:=cw X5.out.1 4 (v:=.int .i64 wa)
      have c5:=cw X5.out.1 5 (v:=.int .i64 ca)
      have c6:=cw X5.out.1 6 (v:=.int .i64 wt)
      have c7:=cw X5.out.1 7 (v:=.int .i64 tr)
      have c8:=cw X5.out.1 8 (v:=.int .i64 po)
      have l0:=cw X5.out.2.1 0 (v:=.int .i64 k)
      have l1:=cw X5.out.2.1 1 (v:=.int .i64 f)
      have l2:=cw X5.out.2.1 2 (v:=.int .i64 dd)
      have l3:=cw X5.out.2.1 3 (v:=.int .i64 bl)
      have l4:=cw X5.out.2.1 4 (v:=.int .i64 q)
      have l5:=cw X5.out.2.1 5 (v:=.int .i64 wh)
      have l6:=cw X5.out.2.1 6 (v:=.bool wr)
      have l7:=cw X5.out.2.1 7 (v:=.int .i64 ct)
      have l8:=cw X5.out.2.1 8 (v:=.bool ow)
      have l9:=cw X5.out.2.1 9 (v:=.bool ha)
      have l10:=cw X5.out.2.1 10 (v:=.int .i64 da)
      have r_0:=cw X5.out.2.2.1 0 (v:=.bool r1)
      have r_1:=cw X5.out.2.2.1 1 (v:=.bool r2)
      have r_2:=cw X5.out.2.2.1 2 (v:=.bool r3)
      have r_3:=cw X5.out.2.2.1 3 (v:=.bool r4)
      have r_4:=cw X5.out.2.2.1 4 (v:=.bool r5)
      have r_5:=cw X5.out.2.2.1 5 (v:=.bool r6)
      have r_6:=cw X5.out.2.2.1 6 (v:=.bool r7)
      have r_7:=cw X5.out.2.2.1 7 (v:=.bool r8)
      generalize formOk ⟨nn,b,t,se,wa,ca,wt,tr,po⟩ ⟨k,f,dd,bl,q,wh,wr,⟨ct,ow,ha,da⟩⟩ ⟨r1,r2,r3,r4,r5,r6,r7,r8⟩=e3 at *
      cases e3
      ·have KV:=AS (show v=10 by rw[CE5.out];exact if_pos rfl)
       clear CE5
       go_wp2
       go_ret
       exact RV.of (by rw[KV.out];rfl) X5.out.2.2.2
      ·have CE6:=AS (CE5.out.trans (if_neg (by simp)))
       clear CE5
       cases r8
       ·have hne:=fun w:Go.World=>neq45 w ct 0 da 0 ow false ha false
        have KV:=AS (show v=if (ct == 0 && (ow == false && (ha == false && (da == 0))))=true then 0 else 6 by rw[CE6.out];unfold chk5;simp)
        generalize (ct == 0 && (ow == false && (ha == false && (da == 0))))=e4 at *
        clear CE6
        cases e4
        all_goals
         go_wp2
         go_ret
         exact RV.of (by rw[KV.out];rfl) X5.out.2.2.2
       ·have KV:=AS (show v=if Bun.check ⟨ct,ow,ha,da⟩ t≠0∨ct > 0 then Bun.check ⟨ct,ow,ha,da⟩ t else 4 by rw[CE6.out];rfl)
        clear CE6
        go_wp2_with fail
        refine(bcheck_any ct ow ha da t _).mono ?_
        rintro e w6 ⟨rfl,hb⟩
        have X6:=AS (show w6.heap[w.heap.size]?=some (.cells #[.int .i64 nn,.int .i64 b,.int .i64 t,.int .i64 se,.int .i64 wa,.int .i64 ca,.int .i64 wt,.int .i64 tr,.int .i64 po] 23)/\w6.heap[w.heap.size+1]?=some (.cells #[.int .i64 k,.int .i64 f,.int .i64 dd,.int .i64 bl,.int .i64 q,.int .i64 wh,.bool wr,.int .i64 ct,.bool ow,.bool ha,.int .i64 da] 47)/\w6.heap[g3]?=some (.cells #[.bool r1,.bool r2,.bool r3,.bool r4,.bool r5,.bool r6,.bool r7,.bool true] 228)/\Below w.heap.size w w6 from⟨blk_below X5.out.1 hb,blk_below X5.out.2.1 hb,blk_below X5.out.2.2.1 hb,X5.out.2.2.2.trans (hb.mono X5.out.2.2.2.size)⟩)
        clear hb
        clear c0 c1 c2 c3 c4 c5 c6 c7 c8 l0 l1 l2 l3 l4 l5 l6 l7 l8 l9 l10 r_0 r_1 r_2 r_3 r_4 r_5 r_6 r_7
        have c0:=cw X6.out.1 0 (v:=.int .i64 nn)
        have c1:=cw X6.out.1 1 (v:=.int .i64 b)
        have c2:=cw X6.out.1 2 (v:=.int .i64 t)
        have c3:=cw X6.out.1 3 (v:=.int .i64 se)
        have c4:=cw X6.out.1 4 (v:=.int .i64 wa)
        have c5:=cw X6.out.1 5 (v:=.int .i64 ca)
        have c6:=cw X6.out.1 6 (v:=.int .i64 wt)
        have c7:=cw X6.out.1 7 (v:=.int .i64 tr)
        have c8:=cw X6.out.1 8 (v:=.int .i64 po)
        have l0:=cw X6.out.2.1 0 (v:=.int .i64 k)
        have l1:=cw X6.out.2.1 1 (v:=.int .i64 f)
        have l2:=cw X6.out.2.1 2 (v:=.int .i64 dd)
        have l3:=cw X6.out.2.1 3 (v:=.int .i64 bl)
        have l4:=cw X6.out.2.1 4 (v:=.int .i64 q)
        have l5:=cw X6.out.2.1 5 (v:=.int .i64 wh)
        have l6:=cw X6.out.2.1 6 (v:=.bool wr)
        have l7:=cw X6.out.2.1 7 (v:=.int .i64 ct)
        have l8:=cw X6.out.2.1 8 (v:=.bool ow)
        have l9:=cw X6.out.2.1 9 (v:=.bool ha)
        have l10:=cw X6.out.2.1 10 (v:=.int .i64 da)
        have r_0:=cw X6.out.2.2.1 0 (v:=.bool r1)
        have r_1:=cw X6.out.2.2.1 1 (v:=.bool r2)
        have r_2:=cw X6.out.2.2.1 2 (v:=.bool r3)
        have r_3:=cw X6.out.2.2.1 3 (v:=.bool r4)
        have r_4:=cw X6.out.2.2.1 4 (v:=.bool r5)
        have r_5:=cw X6.out.2.2.1 5 (v:=.bool r6)
        have r_6:=cw X6.out.2.2.1 6 (v:=.bool r7)
        have r_7:=cw X6.out.2.2.1 7 (v:=.bool true)
        generalize Bun.check ⟨ct,ow,ha,da⟩ t=e5 at *
        by_cases h5:e5=0
        ·by_cases h6:ct > 0
         ·have KX:=AS (show v=e5 by rw[KV.out];exact if_pos (.inr h6))
          have h5b:(e5 != 0)=false:=by simp[h5]
          clear KV h5
          go_wp2
          go_ret
          exact RV.of (by rw[KX.out];rfl) X6.out.2.2.2
         ·have KX:=AS (show v=4 by rw[KV.out];exact if_neg (by rintro(h | h);exact h h5;exact h6 h))
          have h5b:(e5 != 0)=false:=by simp[h5]
          clear KV h5
          go_wp2
          go_ret
          exact RV.of (by rw[KX.out];rfl) X6.out.2.2.2
        ·have KX:=AS (show v=e5 by rw[KV.out];exact if_pos (.inl h5))
         have h5b:(e5 != 0)=true:=by simpa using h5
         clear KV h5
         go_wp2
         go_ret
         exact RV.of (by rw[KX.out];rfl) X6.out.2.2.2
end Go.Proofs.YtiebppkhaiofeaaGreat.K
