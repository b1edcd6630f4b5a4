/- Part of the proof of TopStarver: what functions of the program do. -/
import Derived.WideKeyEntry
import Derived.Test.YtiebppkhaiofeaaGreatS41
set_option maxHeartbeats 4000000
set_option maxRecDepth 100000
set_option linter.unusedVariables false
set_option linter.unusedSimpArgs false
namespace Go.Proofs.YtiebppkhaiofeaaGreat.K
open Go.RowKit Go.Proofs.YtiebppkhaiofeaaGreatW.PrintWords Go.Proofs.YtiebppkhaiofeaaGreat.S
attribute [local go_sem] World.cell?_alloc_some
open Go.ChangeMaps Go.MapKept
open Go.WideElems in
theorem IM.entry {P:Program} {w:Go.World} {t kt et:TypeId} {b:Nat} {es:Array MapEntry} {ck:Nat} {f:Int->Option Value} (h:IM es ck f) (hb:w.heap[b]?=some (.map es ck)) (ht:P.underlying t=some (.map kt et)) (hk:P.underlying kt=some (.int .i64)) {z:Value} (hz:∀ u:Go.World,(zeroValue et).run P u=.ok z u) (k:Int) :
  ∃ (st:Nat) (es1:Array MapEntry) (ck1:Nat),(Instr.mapEntry t (.map (some b)) (.int .i64 k)).run P w=.ok (.tuple #[(f k).getD z,goInt st]) (setBlock w b (.map es1 ck1)) /\
   ∀ (w2:Go.World) (val:Value),w2.heap[b]?=some (.map es1 ck1)->∃ es' ck',(Instr.entryStore t (.map (some b)) (goInt st) val).run P w2=.ok () (setBlock w2 b (.map es' ck'))/\IM es' ck' (fput f k val):=by
 have fin:∀ (val:Value) (es':Array MapEntry) (ck':Nat),(Instr.mapUpdate t (.map (some b)) (.int .i64 k) val).run P w=.ok () (setBlock w b (.map es' ck'))->IM es' ck' (fput f k val):=fun val es' ck' hr=>by
  obtain⟨es2,ck2,hr2,hi⟩:=h.put hb ht hk k val
  rw[hr2] at hr
  injection hr with _ hr
  have h1:=set_at hb (.map es2 ck2)
  rw[hr,set_at hb] at h1
  injection h1 with h1
  injection h1 with e1 e2
  rw[e1,e2];exact hi
 rcases h.find k with ⟨h0,h1,h2⟩ | ⟨j,e0,h0,h1,h2,h3⟩
 ·refine⟨ck,es.push ⟨.int .i64 k,z,ck⟩,ck+1,?_,fun w2 val hw2=>⟨es.push ⟨.int .i64 k,val,ck⟩,ck+1,?_,fin val _ _ ?_⟩⟩
  ·rw[h0]
   simp[Instr.mapEntry,run_underlying ht,MapKept.run_getObj_map hb,run_checkKey hk (isKey_int k),run_findKey hk h1,hz,MapKept.run_setObj_map _ hb,Result.andThen,setBlock]
  ·have hidx:(es.push ⟨.int .i64 k,z,ck⟩).findIdx? (fun e=>((e.born:Nat):Int) == ((ck:Nat):Int))=some es.size:=by
    rw[findIdx_arr]
    exact findIdx_born (l:=(es.push ⟨.int .i64 k,z,ck⟩).toList) (j:=es.size) (e0:=⟨.int .i64 k,z,ck⟩) (by
     simp only[Array.toList_push,List.map_append,List.map_cons,List.map_nil]
     refine List.nodup_append.2 ⟨h.1.2.1,by simp,fun a ha c hc e1=>?_⟩
     simp only[List.mem_singleton] at hc
     obtain⟨x,hx,rfl⟩:=List.mem_map.1 ha
     have:=h.1.1 x hx
     omega) (by simp)
   have hmod:(es.push ⟨.int .i64 k,z,ck⟩).modify es.size (fun e=>{ e with val:=val })=es.push ⟨.int .i64 k,val,ck⟩:=by
    apply Array.ext'
    rw[Array.toList_modify,Array.toList_push,Array.toList_push,<- Array.length_toList,modify_last]
   simp[Instr.entryStore,MapKept.run_getObj_map hw2,asInt,asIntOf,goInt,hidx,hmod,MapKept.run_setObj_map _ hw2,Result.andThen,setBlock]
  ·simp[Instr.mapUpdate,run_underlying ht,MapKept.run_getObj_map hb,run_checkKey hk (isKey_int k),run_findKey hk h1,MapKept.run_setObj_map _ hb,Result.andThen,setBlock]
 ·have hj:es[j]?=some e0:=h2
  have hl:es.toList[j]?=some e0:=by simpa using h2
  have hsame:es.modify j (fun e=>{ e with key:=.int .i64 k })=es:=by
   apply Array.ext'
   rw[Array.toList_modify,modify_eq_set _ _ _ _ hl]
   have:({ e0 with key:=.int .i64 k }:MapEntry)=e0:=by rw[<- h3]
   rw[this]
   exact set_self _ _ _ hl
  refine⟨e0.born,es,ck,?_,fun w2 val hw2=>⟨es.modify j (fun e'=>{ e' with key:=.int .i64 k,val:=val }),ck,?_,fin val _ _ ?_⟩⟩
  ·rw[h0]
   simp[Instr.mapEntry,run_underlying ht,MapKept.run_getObj_map hb,run_checkKey hk (isKey_int k),run_findKey hk h1,hj,h3,run_keyThatStays (isKey_int k),hsame,MapKept.run_setObj_map _ hb,Result.andThen,setBlock]
  ·have hidx:es.findIdx? (fun e=>((e.born:Nat):Int) == ((e0.born:Nat):Int))=some j:=by
    rw[findIdx_arr]
    exact findIdx_born h.1.2.1 hl
   have hmod:es.modify j (fun e=>{ e with val:=val })=es.modify j (fun e'=>{ e' with key:=.int .i64 k,val:=val }):=by
    apply Array.ext'
    rw[Array.toList_modify,Array.toList_modify,modify_eq_set _ _ _ _ hl,modify_eq_set _ _ _ _ hl,<- h3]
   simp[Instr.entryStore,MapKept.run_getObj_map hw2,asInt,asIntOf,goInt,hidx,hmod,MapKept.run_setObj_map _ hw2,Result.andThen,setBlock]
  ·simp[Instr.mapUpdate,run_underlying ht,MapKept.run_getObj_map hb,run_checkKey hk (isKey_int k),run_findKey hk h1,h2,h3,run_keyThatStays (isKey_int k),MapKept.run_setObj_map _ hb,Result.andThen,setBlock]
structure Regs where
 val:Int->Int
 cnt:Int->Int
 step:Int
def Regs.new:Regs:=⟨fun _=>0,fun _=>0,1⟩
def Regs.want (r:Regs) (d:S.Done):Int:=if d.op.write then d.op.value else r.val d.op.block
def Regs.doIt (r:Regs) (d:S.Done):Regs×Bool:=if d.number≠wrap64 (r.cnt d.node+1)∨d.step < r.step∨d.value≠r.want d then (r,false) else (⟨upd r.val d.op.block (r.want d),upd r.cnt d.node d.number,d.step⟩,true)
def RegAt (r:Regs) (b:Nat) (F:Set_) (w:Go.World):Prop:=∃ bv bc,w.heap[b]?=some (.cells #[.map (some bv),.map (some bc),.int .i64 r.step] 160 (0,0))/\MapI r.val bv w/\MapI r.cnt bc w/\b≠bv/\b≠bc/\bv≠bc/\F b/\F bv/\F bc
theorem under158:Tryz.prog.underlying 158=some (.map 3 2):=by kernel_rfl
theorem zero2 (w:Go.World):(zeroValue 2).run Tryz.prog w=.ok (.int .i64 0) w:=by kernel_rfl
theorem regNew_any (w:Go.World):Calls Tryz.prog 40 #[] w fun e w'=>∃ b,e=.returned (.pointer (some ⟨b,0,none⟩))/\RegAt Regs.new b (nw w) w'/\Below w.heap.size w w':=by
 have hmm:=@run_makeMap Tryz.prog
 go_enter Tryz.func40,Tryz.ntmps40
 go_wp2
 go_ret
 refine⟨_,rfl,⟨w.heap.size,w.heap.size+1,blk_newE _ _ (by simp only[World.size_alloc]),⟨#[],0,fun _=>none,blk_alloc (blk_alloc (blk_new w _) _) _,IM.empty,fun _=>rfl⟩,⟨#[],0,fun _=>none,blk_alloc (blk_newE _ _ (by simp only[World.size_alloc])) _,IM.empty,fun _=>rfl⟩,by omega,by omega,by omega,?_,?_,?_⟩,below_alloc (below_alloc (below_alloc (Below.refl _ _) _) _) _⟩
 ·show w.heap.size≤_;omega
 ·exact Nat.le_refl _
 ·show w.heap.size≤_;omega
def kindN (k:Int):Int:=if k < 0∨k > 7 then 0 else k
theorem kind_any (k f t b qq wh:Int) (wr:Bool) (c0:Int) (oo hh:Bool) (dd:Int) (w:Go.World):Calls Tryz.prog 71 #[.agg #[.int .i64 k,.int .i64 f,.int .i64 t,.int .i64 b,.int .i64 qq,.int .i64 wh,.bool wr,.int .i64 c0,.bool oo,.bool hh,.int .i64 dd]] w (RV (.int .i64 (kindN k)) w):=by
 by_cases h0:k < 0
 ·rw[show kindN k=0 from if_pos (.inl h0)]
  have d0:decide (k < 0)=true:=decide_eq_true h0
  go_enter Tryz.func71,Tryz.ntmps71
  go_wp2
  go_ret
  exact RV.of rfl (by repeat (with_reducible first | exact Below.refl _ _ | assumption | apply below_alloc))
 ·have d0:decide (k < 0)=false:=decide_eq_false h0
  by_cases h7:7 < k
  ·rw[show kindN k=0 from if_pos (.inr h7)]
   have d1:decide (7 < k)=true:=decide_eq_true h7
   go_enter Tryz.func71,Tryz.ntmps71
   go_wp2
   go_ret
   exact RV.of rfl (by repeat (with_reducible first | exact Below.refl _ _ | assumption | apply below_alloc))
  ·rw[show kindN k=k from if_neg (by omega)]
   have d1:decide (7 < k)=false:=decide_eq_false h7
   go_enter Tryz.func71,Tryz.ntmps71
   go_wp2
   go_ret
   exact RV.of rfl (by repeat (with_reducible first | exact Below.refl _ _ | assumption | apply below_alloc))
theorem RegAt.keep {r:Regs} {b:Nat} {F F' G:Set_} {w w':Go.World} (h:RegAt r b F w) (hk:KS G w w') (hs:∀ x,x < w.heap.size->F x->F' x/\¬ G x):RegAt r b F' w':=by
 obtain⟨bv,bc,h1,h2,h3,h4,h5,h6,h7,h8,h9⟩:=h
 exact⟨bv,bc,hk.at_ h1 (hs b (blk_lt h1) h7).2,h2.keep hk (hs bv h2.lt h8).2,h3.keep hk (hs bc h3.lt h9).2,h4,h5,h6,(hs b (blk_lt h1) h7).1,(hs bv h2.lt h8).1,(hs bc h3.lt h9).1⟩
def RegP (v:Value) (r:Regs) (b:Nat) (F:Set_) (w:Go.World) (e:Ending) (w':Go.World):Prop:=e=.returned v/\RegAt r b (gr F w) w'/\KS F w w'
theorem regDo_any {r:Regs} {b:Nat} {F:Set_} {w:Go.World} (hR:RegAt r b F w) (nd nu bl:Int) (wr:Bool) (ov va st:Int):Calls Tryz.prog 41 #[.pointer (some ⟨b,0,none⟩),.agg #[.int .i64 nd,.int .i64 nu,.int .i64 bl,.bool wr,.int .i64 ov,.int .i64 va,.int .i64 st]] w (RegP (.bool (r.doIt (⟨nd,nu,⟨bl,wr,ov⟩,va,st⟩:S.Done)).2) (r.doIt (⟨nd,nu,⟨bl,wr,ov⟩,va,st⟩:S.Done)).1 b F w):=by
 have HR0:=AS hR
 obtain⟨bv,bc,h1,⟨ev,cv_,fv,v1,v2,v3⟩,⟨ec,cc,fc,c1,c2,c3⟩,h4,h5,h6,h7,h8,h9⟩:=hR
 have BE:=AS (below_alloc (Below.refl w.heap.size w) (.cells #[.int .i64 nd,.int .i64 nu,.int .i64 bl,.bool wr,.int .i64 ov,.int .i64 va,.int .i64 st] 59))
 have BX:=AS (blk_new w (.cells #[.int .i64 nd,.int .i64 nu,.int .i64 bl,.bool wr,.int .i64 ov,.int .i64 va,.int .i64 st] 59))
 have RB:=AS (HR0.out.keep (F':=F) (KS.below (fun _=>False) BE.out) (fun x _ h=>⟨h,id⟩))
 have lkv:=fun n=>v2.look (map_drewN (map_alloc v1 (.cells #[.int .i64 nd,.int .i64 nu,.int .i64 bl,.bool wr,.int .i64 ov,.int .i64 va,.int .i64 st] 59)) n) under158 under3 (zero2 _) bl
 have lkc:=fun n=>c2.look (map_drewN (map_alloc c1 (.cells #[.int .i64 nd,.int .i64 nu,.int .i64 bl,.bool wr,.int .i64 ov,.int .i64 va,.int .i64 st] 59)) n) under31 under3 (zero3 _) nd
 simp only[v3 bl] at lkv
 simp only[c3 nd] at lkc
 have b0:(w.alloc (.cells #[.int .i64 nd,.int .i64 nu,.int .i64 bl,.bool wr,.int .i64 ov,.int .i64 va,.int .i64 st] 59)).cell? ⟨b,0,none⟩=some (.map (some bv)):=cw (blk_alloc h1 _) 0
 have b1:(w.alloc (.cells #[.int .i64 nd,.int .i64 nu,.int .i64 bl,.bool wr,.int .i64 ov,.int .i64 va,.int .i64 st] 59)).cell? ⟨b,1,none⟩=some (.map (some bc)):=cw (blk_alloc h1 _) 1
 have b2:(w.alloc (.cells #[.int .i64 nd,.int .i64 nu,.int .i64 bl,.bool wr,.int .i64 ov,.int .i64 va,.int .i64 st] 59)).cell? ⟨b,2,none⟩=some (.int .i64 r.step):=cw (blk_alloc h1 _) 2
 have d0_:=cw BX.out 0 (v:=.int .i64 nd)
 have d1_:=cw BX.out 1 (v:=.int .i64 nu)
 have d2_:=cw BX.out 2 (v:=.int .i64 bl)
 have d3_:=cw BX.out 3 (v:=.bool wr)
 have d4_:=cw BX.out 4 (v:=.int .i64 ov)
 have d5_:=cw BX.out 5 (v:=.int .i64 va)
 have d6_:=cw BX.out 6 (v:=.int .i64 st)
 have DO:=AS (show r.doIt (⟨nd,nu,⟨bl,wr,ov⟩,va,st⟩:S.Done)=(if nu≠wrap64 (r.cnt nd+1)∨st < r.step∨va≠r.want (⟨nd,nu,⟨bl,wr,ov⟩,va,st⟩:S.Done) then (r,false) else (⟨upd r.val bl (r.want (⟨nd,nu,⟨bl,wr,ov⟩,va,st⟩:S.Done)),upd r.cnt nd nu,st⟩,true)) from rfl)
 have WT:=AS (show r.want (⟨nd,nu,⟨bl,wr,ov⟩,va,st⟩:S.Done)=(if wr then ov else r.val bl) from rfl)
 generalize hd:r.doIt (⟨nd,nu,⟨bl,wr,ov⟩,va,st⟩:S.Done)=Dr at *
 generalize hw:r.want (⟨nd,nu,⟨bl,wr,ov⟩,va,st⟩:S.Done)=wt at *
 have VC:=AS (And.intro v2 (And.intro v3 (And.intro c2 c3)))
 have HH:=AS (And.intro h4 (And.intro h5 (And.intro h6 (And.intro h7 (And.intro h8 h9)))))
 have HM:=AS (And.intro h1 (And.intro v1 c1))
 clear hd hw v2 v3 c2 c3 h4 h5 h6 h7 h8 h9
 go_enter Tryz.func41,Tryz.ntmps41
 go_upto_region 1 with fail
 go_quiet (fail)
 revert nq
 intro n1
 have NO:=AS (show ∀ W',Below (w.alloc (.cells #[.int .i64 nd,.int .i64 nu,.int .i64 bl,.bool wr,.int .i64 ov,.int .i64 va,.int .i64 st] 59)).heap.size (w.alloc (.cells #[.int .i64 nd,.int .i64 nu,.int .i64 bl,.bool wr,.int .i64 ov,.int .i64 va,.int .i64 st] 59)) W'->RegAt r b (gr F w) W'/\KS F w W' from fun W' hb=>⟨RB.out.keep (KS.below (fun _=>False) hb) (fun x _ h=>⟨.inl h,id⟩),(KS.below _ BE.out).andBelow hb⟩)
 cases wr
 ·have hwt:=WT.out
  simp only[Bool.false_eq_true,if_false,if_true] at hwt
  subst hwt
  clear WT
  go_upto_region 4 with fail
  by_cases q1:nu=wrap64 (r.cnt nd+1)
  case neg =>
   have hr:=DO.out.trans (if_pos (.inl q1))
   have HRR:=AS hr
   have g1:(nu != wrap64 (r.cnt nd+1))=true:=by simp[q1]
   clear q1 hr
   go_quiet (fail)
   go_wp2
   go_ret
   rw[HRR.out]
   exact⟨rfl,NO.out _ (by repeat (with_reducible first | exact Below.refl _ _ | refine bdrewN ?_ _))⟩
  case pos =>
   have g1:(nu != wrap64 (r.cnt nd+1))=false:=by simp[q1]
   by_cases q2:st < r.step
   case pos =>
    have hr:=DO.out.trans (if_pos (.inr (.inl q2)))
    have HRR:=AS hr
    have g2:decide (st < r.step)=true:=decide_eq_true q2
    have HQ1:=AS q1
    clear q1 q2 hr
    go_quiet (fail)
    go_wp2
    go_ret
    rw[HRR.out]
    exact⟨rfl,NO.out _ (by repeat (with_reducible first | exact Below.refl _ _ | refine bdrewN ?_ _))⟩
   case neg =>
    have g2:decide (st < r.step)=false:=decide_eq_false q2
    by_cases q3:va=r.val bl
    case neg =>
     have hr:=DO.out.trans (if_pos (.inr (.inr q3)))
     have HRR:=AS hr
     have g3:(va != r.val bl)=true:=by simp[q3]
     have HQ:=AS (And.intro q1 (And.intro q2 q3))
     clear q1 q2 q3 hr
     go_quiet (fail)
     go_wp2
     go_ret
     rw[HRR.out]
     exact⟨rfl,NO.out _ (by repeat (with_reducible first | exact Below.refl _ _ | refine bdrewN ?_ _))⟩
    case pos =>
     have hr:=DO.out.trans (if_neg (by rintro(h | h | h);exact h q1;exact q2 h;exact h q3))
     have HRR:=AS hr
     have g3:(va != r.val bl)=false:=by simp[q3]
     have HQ:=AS (And.intro q1 (And.intro q2 q3))
     clear q1 q2 q3 hr
     go_quiet (fail)
     go_upto_region 6 with fail
     have BG:=AS (show Below (w.alloc (.cells #[.int .i64 nd,.int .i64 nu,.int .i64 bl,.bool false,.int .i64 ov,.int .i64 va,.int .i64 st] 59)).heap.size (w.alloc (.cells #[.int .i64 nd,.int .i64 nu,.int .i64 bl,.bool false,.int .i64 ov,.int .i64 va,.int .i64 st] 59)) (((w.alloc (.cells #[.int .i64 nd,.int .i64 nu,.int .i64 bl,.bool false,.int .i64 ov,.int .i64 va,.int .i64 st] 59)).drewN n1).drewN nq) from bdrewN (bdrewN (Below.refl _ _) _) _)
     have GX:=AS (blk_below BX.out BG.out)
     have GB:=AS (blk_below (blk_alloc HM.out.1 (.cells #[.int .i64 nd,.int .i64 nu,.int .i64 bl,.bool false,.int .i64 ov,.int .i64 va,.int .i64 st] 59)) BG.out)
     have GV:=AS (blk_below (blk_alloc HM.out.2.1 (.cells #[.int .i64 nd,.int .i64 nu,.int .i64 bl,.bool false,.int .i64 ov,.int .i64 va,.int .i64 st] 59)) BG.out)
     have GC:=AS (blk_below (blk_alloc HM.out.2.2 (.cells #[.int .i64 nd,.int .i64 nu,.int .i64 bl,.bool false,.int .i64 ov,.int .i64 va,.int .i64 st] 59)) BG.out)
     have KG:=AS ((KS.below F BE.out).andBelow BG.out)
     have HLT:=AS (And.intro (blk_lt HM.out.1) (And.intro (blk_lt HM.out.2.1) (blk_lt HM.out.2.2)))
     generalize ((w.alloc (.cells #[.int .i64 nd,.int .i64 nu,.int .i64 bl,.bool false,.int .i64 ov,.int .i64 va,.int .i64 st] 59)).drewN n1).drewN nq=Wg at BG GX GB GV GC KG ⊢
     clear b0 b1 b2 d0_ d1_ d2_ d3_ d4_ d5_ d6_ lkv lkc h1 v1 c1 g1 g2 g3
     obtain⟨st1,es1,ck1,hr1,hst⟩:=VC.out.2.2.1.entry (w:=Wg.drew) GC.out under31 under3 (fun u=>zero3 u) nd
     rw[VC.out.2.2.2 nd] at hr1
     simp only[goInt] at hr1
     have M1:=AS (show(setBlock Wg.drew bc (.map es1 ck1)).heap[bc]?=some (.map es1 ck1) from set_at (show Wg.drew.heap[bc]?=some (.map ec cc) from GC.out) _)
     obtain⟨es2,ck2,hr2,hi2⟩:=hst _ (.int .i64 nu) M1.out
     try simp only[goInt] at hr2
     have I2:=AS hi2
     have hne:b≠bc:=HH.out.2.1
     have hnx:w.heap.size≠bc:=fun e=>by have:=HLT.out.2.2;omega
     have hnb:w.heap.size≠b:=fun e=>by have:=HLT.out.1;omega
     have X1B:=AS ((set_far (show Wg.drew.heap[bc]?=some (.map ec cc) from GC.out) (.map es1 ck1) hne).trans GB.out)
     have X1X:=AS ((set_far (show Wg.drew.heap[bc]?=some (.map ec cc) from GC.out) (.map es1 ck1) hnx).trans GX.out)
     have X2B:=AS ((set_far M1.out (.map es2 ck2) hne).trans X1B.out)
     have X2X:=AS ((set_far M1.out (.map es2 ck2) hnx).trans X1X.out)
     have M2:=AS (set_at M1.out (.map es2 ck2))
     have X3B:=AS (blk_set X2B.out 2 (.int .i64 st))
     have X3X:=AS ((Below.heap_setCell _ ⟨b,2,none⟩ (.int .i64 st) _ hnb).trans X2X.out)
     have S0:=AS (show Wg.drew.cell? ⟨b,1,none⟩=some (.map (some bc))/\Wg.drew.cell? ⟨w.heap.size,0,none⟩=some (.int .i64 nd)/\Wg.drew.cell? ⟨w.heap.size,1,none⟩=some (.int .i64 nu)/\Wg.drew.cell? ⟨w.heap.size,6,none⟩=some (.int .i64 st) from⟨cw GB.out 1,cw GX.out 0,cw GX.out 1,cw GX.out 6⟩)
     have S1:=AS (show(setBlock Wg.drew bc (.map es1 ck1)).cell? ⟨b,1,none⟩=some (.map (some bc))/\(setBlock Wg.drew bc (.map es1 ck1)).cell? ⟨w.heap.size,0,none⟩=some (.int .i64 nd)/\(setBlock Wg.drew bc (.map es1 ck1)).cell? ⟨w.heap.size,1,none⟩=some (.int .i64 nu)/\(setBlock Wg.drew bc (.map es1 ck1)).cell? ⟨w.heap.size,6,none⟩=some (.int .i64 st) from⟨cw X1B.out 1,cw X1X.out 0,cw X1X.out 1,cw X1X.out 6⟩)
     have S2:=AS (show(setBlock (setBlock Wg.drew bc (.map es1 ck1)) bc (.map es2 ck2)).cell? ⟨b,1,none⟩=some (.map (some bc))/\(setBlock (setBlock Wg.drew bc (.map es1 ck1)) bc (.map es2 ck2)).cell? ⟨w.heap.size,0,none⟩=some (.int .i64 nd)/\(setBlock (setBlock Wg.drew bc (.map es1 ck1)) bc (.map es2 ck2)).cell? ⟨w.heap.size,1,none⟩=some (.int .i64 nu)/\(setBlock (setBlock Wg.drew bc (.map es1 ck1)) bc (.map es2 ck2)).cell? ⟨w.heap.size,6,none⟩=some (.int .i64 st) from⟨cw X2B.out 1,cw X2X.out 0,cw X2X.out 1,cw X2X.out 6⟩)
     have S3:=AS (show((setBlock (setBlock Wg.drew bc (.map es1 ck1)) bc (.map es2 ck2)).setCell ⟨b,2,none⟩ (.int .i64 st)).cell? ⟨b,1,none⟩=some (.map (some bc))/\((setBlock (setBlock Wg.drew bc (.map es1 ck1)) bc (.map es2 ck2)).setCell ⟨b,2,none⟩ (.int .i64 st)).cell? ⟨w.heap.size,0,none⟩=some (.int .i64 nd)/\((setBlock (setBlock Wg.drew bc (.map es1 ck1)) bc (.map es2 ck2)).setCell ⟨b,2,none⟩ (.int .i64 st)).cell? ⟨w.heap.size,1,none⟩=some (.int .i64 nu)/\((setBlock (setBlock Wg.drew bc (.map es1 ck1)) bc (.map es2 ck2)).setCell ⟨b,2,none⟩ (.int .i64 st)).cell? ⟨w.heap.size,6,none⟩=some (.int .i64 st) from⟨cw X3B.out 1,cw X3X.out 0,cw X3X.out 1,cw X3X.out 6⟩)
     have k2_:=cw X2B.out 2 (v:=.int .i64 r.step)
     have kz_:=blk_frozen X2B.out 2
     clear hi2 hst hne hnx hnb
     go_region_held3 (fun x=>x.cell? ⟨b,1,none⟩=some (.map (some bc))/\x.cell? ⟨w.heap.size,0,none⟩=some (.int .i64 nd)/\x.cell? ⟨w.heap.size,1,none⟩=some (.int .i64 nu)/\x.cell? ⟨w.heap.size,6,none⟩=some (.int .i64 st)) ((with_reducible first | exact S0.out | exact S1.out | exact S2.out | exact S3.out)) (fail)
     all_goals
      have hbv:b≠bv:=HH.out.1
      have hbc:b≠bc:=HH.out.2.1
      have hvc:bv≠bc:=HH.out.2.2.1
      have hxv:w.heap.size≠bv:=fun e=>by have:=HLT.out.2.1;omega
      have X3V:=AS (show((setBlock (setBlock Wg.drew bc (.map es1 ck1)) bc (.map es2 ck2)).setCell ⟨b,2,none⟩ (.int .i64 st)).drew.heap[bv]?=some (.map ev cv_) from(Below.heap_setCell _ ⟨b,2,none⟩ (.int .i64 st) _ hbv.symm).trans ((set_far M1.out (.map es2 ck2) hvc).trans ((set_far (show Wg.drew.heap[bc]?=some (.map ec cc) from GC.out) (.map es1 ck1) hvc).trans GV.out)))
      have X3C:=AS (show((setBlock (setBlock Wg.drew bc (.map es1 ck1)) bc (.map es2 ck2)).setCell ⟨b,2,none⟩ (.int .i64 st)).drew.heap[bc]?=some (.map es2 ck2) from(Below.heap_setCell _ ⟨b,2,none⟩ (.int .i64 st) _ hbc.symm).trans M2.out)
      obtain⟨es3,ck3,hr3,hi3⟩:=VC.out.1.put (P:=Tryz.prog) X3V.out under158 under3 bl (.int .i64 (r.val bl))
      have I3:=AS hi3
      have X4B:=AS ((set_far X3V.out (.map es3 ck3) hbv).trans X3B.out)
      have X4X:=AS ((set_far X3V.out (.map es3 ck3) hxv).trans X3X.out)
      have X4C:=AS ((set_far X3V.out (.map es3 ck3) hvc.symm).trans X3C.out)
      have X4V:=AS (set_at X3V.out (.map es3 ck3))
      have T0:=AS (show((setBlock (setBlock Wg.drew bc (.map es1 ck1)) bc (.map es2 ck2)).setCell ⟨b,2,none⟩ (.int .i64 st)).drew.cell? ⟨b,0,none⟩=some (.map (some bv))/\((setBlock (setBlock Wg.drew bc (.map es1 ck1)) bc (.map es2 ck2)).setCell ⟨b,2,none⟩ (.int .i64 st)).drew.cell? ⟨w.heap.size,2,none⟩=some (.int .i64 bl) from⟨cw X3B.out 0,cw X3X.out 2⟩)
      have T1:=AS (show(setBlock ((setBlock (setBlock Wg.drew bc (.map es1 ck1)) bc (.map es2 ck2)).setCell ⟨b,2,none⟩ (.int .i64 st)).drew bv (.map es3 ck3)).cell? ⟨b,0,none⟩=some (.map (some bv))/\(setBlock ((setBlock (setBlock Wg.drew bc (.map es1 ck1)) bc (.map es2 ck2)).setCell ⟨b,2,none⟩ (.int .i64 st)).drew bv (.map es3 ck3)).cell? ⟨w.heap.size,2,none⟩=some (.int .i64 bl) from⟨cw X4B.out 0,cw X4X.out 2⟩)
      clear hi3 hbv hbc hvc hxv hr1 hr2 k2_ kz_
      go_upto_region 7 with fail
      go_region_held3 (fun x=>x.cell? ⟨b,0,none⟩=some (.map (some bv))/\x.cell? ⟨w.heap.size,2,none⟩=some (.int .i64 bl)) ((with_reducible first | exact T0.out | exact T1.out)) (fail)
      all_goals
       go_wp2
       go_ret
       rw[HRR.out]
       refine⟨rfl,⟨bv,bc,X4B.out,⟨es3,ck3,_,X4V.out,I3.out,fun k=>?_⟩,⟨es2,ck2,_,X4C.out,I2.out,fun k=>?_⟩,HH.out.1,HH.out.2.1,HH.out.2.2.1,.inl HH.out.2.2.2.1,.inl HH.out.2.2.2.2.1,.inl HH.out.2.2.2.2.2⟩,KS.block (KS.drew (KS.set (KS.block (KS.block (KS.drew KG.out) (.inl HH.out.2.2.2.2.2) _) (.inl HH.out.2.2.2.2.2) _) (.inl HH.out.2.2.2.1) _ _)) (.inl HH.out.2.2.2.2.1) _⟩
       ·show(fput fv bl _ k).getD _=.int .i64 (upd r.val bl _ k)
        unfold fput upd
        by_cases q:k=bl
        ·rw[if_pos q,if_pos q];rfl
        ·rw[if_neg q,if_neg q];exact VC.out.2.1 k
       ·show(fput fc nd _ k).getD _=.int .i64 (upd r.cnt nd _ k)
        unfold fput upd
        by_cases q:k=nd
        ·rw[if_pos q,if_pos q];rfl
        ·rw[if_neg q,if_neg q];exact VC.out.2.2.2 k
 ·have hwt:=WT.out
  simp only[Bool.false_eq_true,if_false,if_true] at hwt
  subst hwt
  clear WT
  go_upto_region 4 with fail
  by_cases q1:nu=wrap64 (r.cnt nd+1)
  case neg =>
   have hr:=DO.out.trans (if_pos (.inl q1))
   have HRR:=AS hr
   have g1:(nu != wrap64 (r.cnt nd+1))=true:=by simp[q1]
   clear q1 hr
   go_quiet (fail)
   go_wp2
   go_ret
   rw[HRR.out]
   exact⟨rfl,NO.out _ (by repeat (with_reducible first | exact Below.refl _ _ | refine bdrewN ?_ _))⟩
  case pos =>
   have g1:(nu != wrap64 (r.cnt nd+1))=false:=by simp[q1]
   by_cases q2:st < r.step
   case pos =>
    have hr:=DO.out.trans (if_pos (.inr (.inl q2)))
    have HRR:=AS hr
    have g2:decide (st < r.step)=true:=decide_eq_true q2
    have HQ1:=AS q1
    clear q1 q2 hr
    go_quiet (fail)
    go_wp2
    go_ret
    rw[HRR.out]
    exact⟨rfl,NO.out _ (by repeat (with_reducible first | exact Below.refl _ _ | refine bdrewN ?_ _))⟩
   case neg =>
    have g2:decide (st < r.step)=false:=decide_eq_false q2
    by_cases q3:va=wt
    case neg =>
     have hr:=DO.out.trans (if_pos (.inr (.inr q3)))
     have HRR:=AS hr
     have g3:(va != wt)=true:=by simp[q3]
     have HQ:=AS (And.intro q1 (And.intro q2 q3))
     clear q1 q2 q3 hr
     go_quiet (fail)
     go_wp2
     go_ret
     rw[HRR.out]
     exact⟨rfl,NO.out _ (by repeat (with_reducible first | exact Below.refl _ _ | refine bdrewN ?_ _))⟩
    case pos =>
     have hr:=DO.out.trans (if_neg (by rintro(h | h | h);exact h q1;exact q2 h;exact h q3))
     have HRR:=AS hr
     have g3:(va != wt)=false:=by simp[q3]
     have HQ:=AS (And.intro q1 (And.intro q2 q3))
     clear q1 q2 q3 hr
     go_quiet (fail)
     go_upto_region 6 with fail
     have BG:=AS (show Below (w.alloc (.cells #[.int .i64 nd,.int .i64 nu,.int .i64 bl,.bool true,.int .i64 wt,.int .i64 va,.int .i64 st] 59)).heap.size (w.alloc (.cells #[.int .i64 nd,.int .i64 nu,.int .i64 bl,.bool true,.int .i64 wt,.int .i64 va,.int .i64 st] 59)) (((w.alloc (.cells #[.int .i64 nd,.int .i64 nu,.int .i64 bl,.bool true,.int .i64 wt,.int .i64 va,.int .i64 st] 59)).drewN n1).drewN nq) from bdrewN (bdrewN (Below.refl _ _) _) _)
     have GX:=AS (blk_below BX.out BG.out)
     have GB:=AS (blk_below (blk_alloc HM.out.1 (.cells #[.int .i64 nd,.int .i64 nu,.int .i64 bl,.bool true,.int .i64 wt,.int .i64 va,.int .i64 st] 59)) BG.out)
     have GV:=AS (blk_below (blk_alloc HM.out.2.1 (.cells #[.int .i64 nd,.int .i64 nu,.int .i64 bl,.bool true,.int .i64 wt,.int .i64 va,.int .i64 st] 59)) BG.out)
     have GC:=AS (blk_below (blk_alloc HM.out.2.2 (.cells #[.int .i64 nd,.int .i64 nu,.int .i64 bl,.bool true,.int .i64 wt,.int .i64 va,.int .i64 st] 59)) BG.out)
     have KG:=AS ((KS.below F BE.out).andBelow BG.out)
     have HLT:=AS (And.intro (blk_lt HM.out.1) (And.intro (blk_lt HM.out.2.1) (blk_lt HM.out.2.2)))
     generalize ((w.alloc (.cells #[.int .i64 nd,.int .i64 nu,.int .i64 bl,.bool true,.int .i64 wt,.int .i64 va,.int .i64 st] 59)).drewN n1).drewN nq=Wg at BG GX GB GV GC KG ⊢
     clear b0 b1 b2 d0_ d1_ d2_ d3_ d4_ d5_ d6_ lkv lkc h1 v1 c1 g1 g2 g3
     obtain⟨st1,es1,ck1,hr1,hst⟩:=VC.out.2.2.1.entry (w:=Wg.drew) GC.out under31 under3 (fun u=>zero3 u) nd
     rw[VC.out.2.2.2 nd] at hr1
     simp only[goInt] at hr1
     have M1:=AS (show(setBlock Wg.drew bc (.map es1 ck1)).heap[bc]?=some (.map es1 ck1) from set_at (show Wg.drew.heap[bc]?=some (.map ec cc) from GC.out) _)
     obtain⟨es2,ck2,hr2,hi2⟩:=hst _ (.int .i64 nu) M1.out
     try simp only[goInt] at hr2
     have I2:=AS hi2
     have hne:b≠bc:=HH.out.2.1
     have hnx:w.heap.size≠bc:=fun e=>by have:=HLT.out.2.2;omega
     have hnb:w.heap.size≠b:=fun e=>by have:=HLT.out.1;omega
     have X1B:=AS ((set_far (show Wg.drew.heap[bc]?=some (.map ec cc) from GC.out) (.map es1 ck1) hne).trans GB.out)
     have X1X:=AS ((set_far (show Wg.drew.heap[bc]?=some (.map ec cc) from GC.out) (.map es1 ck1) hnx).trans GX.out)
     have X2B:=AS ((set_far M1.out (.map es2 ck2) hne).trans X1B.out)
     have X2X:=AS ((set_far M1.out (.map es2 ck2) hnx).trans X1X.out)
     have M2:=AS (set_at M1.out (.map es2 ck2))
     have X3B:=AS (blk_set X2B.out 2 (.int .i64 st))
     have X3X:=AS ((Below.heap_setCell _ ⟨b,2,none⟩ (.int .i64 st) _ hnb).trans X2X.out)
     have S0:=AS (show Wg.drew.cell? ⟨b,1,none⟩=some (.map (some bc))/\Wg.drew.cell? ⟨w.heap.size,0,none⟩=some (.int .i64 nd)/\Wg.drew.cell? ⟨w.heap.size,1,none⟩=some (.int .i64 nu)/\Wg.drew.cell? ⟨w.heap.size,6,none⟩=some (.int .i64 st) from⟨cw GB.out 1,cw GX.out 0,cw GX.out 1,cw GX.out 6⟩)
     have S1:=AS (show(setBlock Wg.drew bc (.map es1 ck1)).cell? ⟨b,1,none⟩=some (.map (some bc))/\(setBlock Wg.drew bc (.map es1 ck1)).cell? ⟨w.heap.size,0,none⟩=some (.int .i64 nd)/\(setBlock Wg.drew bc (.map es1 ck1)).cell? ⟨w.heap.size,1,none⟩=some (.int .i64 nu)/\(setBlock Wg.drew bc (.map es1 ck1)).cell? ⟨w.heap.size,6,none⟩=some (.int .i64 st) from⟨cw X1B.out 1,cw X1X.out 0,cw X1X.out 1,cw X1X.out 6⟩)
     have S2:=AS (show(setBlock (setBlock Wg.drew bc (.map es1 ck1)) bc (.map es2 ck2)).cell? ⟨b,1,none⟩=some (.map (some bc))/\(setBlock (setBlock Wg.drew bc (.map es1 ck1)) bc (.map es2 ck2)).cell? ⟨w.heap.size,0,none⟩=some (.int .i64 nd)/\(setBlock (setBlock Wg.drew bc (.map es1 ck1)) bc (.map es2 ck2)).cell? ⟨w.heap.size,1,none⟩=some (.int .i64 nu)/\(setBlock (setBlock Wg.drew bc (.map es1 ck1)) bc (.map es2 ck2)).cell? ⟨w.heap.size,6,none⟩=some (.int .i64 st) from⟨cw X2B.out 1,cw X2X.out 0,cw X2X.out 1,cw X2X.out 6⟩)
     have S3:=AS (show((setBlock (setBlock Wg.drew bc (.map es1 ck1)) bc (.map es2 ck2)).setCell ⟨b,2,none⟩ (.int .i64 st)).cell? ⟨b,1,none⟩=some (.map (some bc))/\((setBlock (setBlock Wg.drew bc (.map es1 ck1)) bc (.map es2 ck2)).setCell ⟨b,2,none⟩ (.int .i64 st)).cell? ⟨w.heap.size,0,none⟩=some (.int .i64 nd)/\((setBlock (setBlock Wg.drew bc (.map es1 ck1)) bc (.map es2 ck2)).setCell ⟨b,2,none⟩ (.int .i64 st)).cell? ⟨w.heap.size,1,none⟩=some (.int .i64 nu)/\((setBlock (setBlock Wg.drew bc (.map es1 ck1)) bc (.map es2 ck2)).setCell ⟨b,2,none⟩ (.int .i64 st)).cell? ⟨w.heap.size,6,none⟩=some (.int .i64 st) from⟨cw X3B.out 1,cw X3X.out 0,cw X3X.out 1,cw X3X.out 6⟩)
     have k2_:=cw X2B.out 2 (v:=.int .i64 r.step)
     have kz_:=blk_frozen X2B.out 2
     clear hi2 hst hne hnx hnb
     go_region_held3 (fun x=>x.cell? ⟨b,1,none⟩=some (.map (some bc))/\x.cell? ⟨w.heap.size,0,none⟩=some (.int .i64 nd)/\x.cell? ⟨w.heap.size,1,none⟩=some (.int .i64 nu)/\x.cell? ⟨w.heap.size,6,none⟩=some (.int .i64 st)) ((with_reducible first | exact S0.out | exact S1.out | exact S2.out | exact S3.out)) (fail)
     all_goals
      have hbv:b≠bv:=HH.out.1
      have hbc:b≠bc:=HH.out.2.1
      have hvc:bv≠bc:=HH.out.2.2.1
      have hxv:w.heap.size≠bv:=fun e=>by have:=HLT.out.2.1;omega
      have X3V:=AS (show((setBlock (setBlock Wg.drew bc (.map es1 ck1)) bc (.map es2 ck2)).setCell ⟨b,2,none⟩ (.int .i64 st)).drew.heap[bv]?=some (.map ev cv_) from(Below.heap_setCell _ ⟨b,2,none⟩ (.int .i64 st) _ hbv.symm).trans ((set_far M1.out (.map es2 ck2) hvc).trans ((set_far (show Wg.drew.heap[bc]?=some (.map ec cc) from GC.out) (.map es1 ck1) hvc).trans GV.out)))
      have X3C:=AS (show((setBlock (setBlock Wg.drew bc (.map es1 ck1)) bc (.map es2 ck2)).setCell ⟨b,2,none⟩ (.int .i64 st)).drew.heap[bc]?=some (.map es2 ck2) from(Below.heap_setCell _ ⟨b,2,none⟩ (.int .i64 st) _ hbc.symm).trans M2.out)
      obtain⟨es3,ck3,hr3,hi3⟩:=VC.out.1.put (P:=Tryz.prog) X3V.out under158 under3 bl (.int .i64 (wt))
      have I3:=AS hi3
      have X4B:=AS ((set_far X3V.out (.map es3 ck3) hbv).trans X3B.out)
      have X4X:=AS ((set_far X3V.out (.map es3 ck3) hxv).trans X3X.out)
      have X4C:=AS ((set_far X3V.out (.map es3 ck3) hvc.symm).trans X3C.out)
      have X4V:=AS (set_at X3V.out (.map es3 ck3))
      have T0:=AS (show((setBlock (setBlock Wg.drew bc (.map es1 ck1)) bc (.map es2 ck2)).setCell ⟨b,2,none⟩ (.int .i64 st)).drew.cell? ⟨b,0,none⟩=some (.map (some bv))/\((setBlock (setBlock Wg.drew bc (.map es1 ck1)) bc (.map es2 ck2)).setCell ⟨b,2,none⟩ (.int .i64 st)).drew.cell? ⟨w.heap.size,2,none⟩=some (.int .i64 bl) from⟨cw X3B.out 0,cw X3X.out 2⟩)
      have T1:=AS (show(setBlock ((setBlock (setBlock Wg.drew bc (.map es1 ck1)) bc (.map es2 ck2)).setCell ⟨b,2,none⟩ (.int .i64 st)).drew bv (.map es3 ck3)).cell? ⟨b,0,none⟩=some (.map (some bv))/\(setBlock ((setBlock (setBlock Wg.drew bc (.map es1 ck1)) bc (.map es2 ck2)).setCell ⟨b,2,none⟩ (.int .i64 st)).drew bv (.map es3 ck3)).cell? ⟨w.heap.size,2,none⟩=some (.int .i64 bl) from⟨cw X4B.out 0,cw X4X.out 2⟩)
      clear hi3 hbv hbc hvc hxv hr1 hr2 k2_ kz_
      go_upto_region 7 with fail
      go_region_held3 (fun x=>x.cell? ⟨b,0,none⟩=some (.map (some bv))/\x.cell? ⟨w.heap.size,2,none⟩=some (.int .i64 bl)) ((with_reducible first | exact T0.out | exact T1.out)) (fail)
      all_goals
       go_wp2
       go_ret
       rw[HRR.out]
       refine⟨rfl,⟨bv,bc,X4B.out,⟨es3,ck3,_,X4V.out,I3.out,fun k=>?_⟩,⟨es2,ck2,_,X4C.out,I2.out,fun k=>?_⟩,HH.out.1,HH.out.2.1,HH.out.2.2.1,.inl HH.out.2.2.2.1,.inl HH.out.2.2.2.2.1,.inl HH.out.2.2.2.2.2⟩,KS.block (KS.drew (KS.set (KS.block (KS.block (KS.drew KG.out) (.inl HH.out.2.2.2.2.2) _) (.inl HH.out.2.2.2.2.2) _) (.inl HH.out.2.2.2.1) _ _)) (.inl HH.out.2.2.2.2.1) _⟩
       ·show(fput fv bl _ k).getD _=.int .i64 (upd r.val bl _ k)
        unfold fput upd
        by_cases q:k=bl
        ·rw[if_pos q,if_pos q];rfl
        ·rw[if_neg q,if_neg q];exact VC.out.2.1 k
       ·show(fput fc nd _ k).getD _=.int .i64 (upd r.cnt nd _ k)
        unfold fput upd
        by_cases q:k=nd
        ·rw[if_pos q,if_pos q];rfl
        ·rw[if_neg q,if_neg q];exact VC.out.2.2.2 k
end Go.Proofs.YtiebppkhaiofeaaGreat.K
