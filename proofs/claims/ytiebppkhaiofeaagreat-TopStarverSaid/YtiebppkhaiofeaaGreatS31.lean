/- Part of the proof of TopStarver: what functions of the program do. -/
import Derived.Maps.RangeRun
import Derived.Maps.RangeWalk
import Derived.Shelf.Sort.Plain
import Derived.Ground.Names2Prog
import Derived.Shelf.Slices.In.SortNone
import Derived.Sort.OwnSortedInts
import Derived.Shelf.SlIterI.Nil
import Derived.Ground.GgzProg
import Derived.Shelf.SlGeneric
import Derived.Test.YtiebppkhaiofeaaGreatS18
set_option maxHeartbeats 4000000
set_option maxRecDepth 100000
set_option linter.unusedVariables false
set_option linter.unusedSimpArgs false
namespace Go.Proofs.YtiebppkhaiofeaaGreat.K
open Go.RowKit Go.Proofs.YtiebppkhaiofeaaGreatW.PrintWords Go.Proofs.YtiebppkhaiofeaaGreat.S
open Go.ChangeMaps Go.MapKept
theorem ks_draw {w1 w:World} (h:w1=w∨w1=w.drew) (F:Set_):KS F w w1/\w1.heap=w.heap:=by
 rcases h with rfl | rfl
 ·exact⟨KS.refl _ _,rfl⟩
 ·exact⟨(KS.refl _ _).drew,rfl⟩
section
variable {P:Program} (w:World) {ops:Array Oper} {rest:List Oper} {o:Oper} {a:Act} {Q:Exit->Act->World->Prop}
theorem wpList_range_im (hg:o.guard=none) (m:Operand) (t:TypeId) (hop:o.op=Op.range t m) (k e:TypeId) (ht:P.underlying t=some (.map k e)) (b:Nat) {es:Array MapEntry} {ck:Nat}
  (hm:a.eval m=.map (some b)) (hb:w.heap[b]?=some (.map es ck))
  (hK:wpList P ops Q rest (a.put o.dst (.pointer (some ⟨w.heap.size,0,none⟩))) (w.alloc (.mapIter (some b) ck #[] ck))) :
  wpList P ops Q (o :: rest) a w:=by
 refine wpList_plain hg fun K' hK'=>?_
 unfold Oper.wp
 simp[execOp,hop,hm,run_range_map w t k e b es ck ht hb,Result.andThen]
 exact hK' _ _ hK
theorem wpList_next_im (hg:o.guard=none) (it:Operand) (hop:o.op=Op.next it false) (r b:Nat) {seen:Array Nat} {es:Array MapEntry} {ck:Nat} {f:Int->Option Value}
  (hit:a.eval it=.pointer (some ⟨r,0,none⟩)) (hr:w.heap[r]?=some (.mapIter (some b) ck seen ck)) (hb:w.heap[b]?=some (.map es ck)) (hI:IM es ck f) (hS:∀ x∈es.toList,∃ A n c,x.val=.slice A n c)
  (hDone:(∀ x∈es.toList,seen.contains x.born=true)->wpList P ops Q rest (a.put o.dst (.tuple #[.bool false])) w)
  (hMore:∀ (x:MapEntry) (k:Int) (A:Option Addr) (n c:Nat) (w':World),x∈es.toList->seen.contains x.born=false->(leftOf es (seen.push x.born)).size < (leftOf es seen).size->x.key=.int .i64 k->x.val=.slice A n c->f k=some (.slice A n c) ->
   w'.heap[r]?=some (.mapIter (some b) ck (seen.push x.born) ck)->KS (fun y=>y=r) w w'->w'.heap.size=w.heap.size->(Instr.entry (.pointer (some ⟨r,0,none⟩))).run P w'=.ok (.tuple #[.int .i64 k,.slice A n c]) w'->wpList P ops Q rest (a.put o.dst (.tuple #[.bool true,.int .i64 k,.slice A n c])) w') :
  wpList P ops Q (o :: rest) a w:=by
 refine wpList_plain hg fun K' hK'=>?_
 unfold Oper.wp
 have hst:=hI.1
 rw[stamped_iff] at hst
 rcases run_next_at (P:=P) w o.type r b ck ck seen es ck hr hb hst.1 (Nat.le_refl _) with ⟨h0,hrun⟩ | ⟨x,hx,w1,hw1,hrun⟩
 ·simp[execOp,hop,hit,hrun,Result.andThen]
  exact hK' _ _ (hDone (all_seen es seen h0))
 ·obtain⟨hxe,hxs⟩:=mem_left hx
  obtain⟨k,hk,hf⟩:=hI.2.1 x hxe
  obtain⟨A,n,c,hv⟩:=hS x hxe
  obtain⟨hk1,hh⟩:=ks_draw hw1 (fun y=>y=r)
  have hr1:w1.heap[r]?=some (.mapIter (some b) ck seen ck):=by rw[hh];exact hr
  have hne:b≠r:=by rintro rfl;rw[hr] at hb;cases hb
  have hlt:=blk_lt hr1
  have h1:(setBlock w1 r (.mapIter (some b) ck (seen.push x.born) ck)).heap[r]?=some (.mapIter (some b) ck (seen.push x.born) ck):=by
   show(w1.heap.setIfInBounds r _)[r]?=_
   rw[Array.getElem?_setIfInBounds_self_of_lt hlt]
  have h2:(setBlock w1 r (.mapIter (some b) ck (seen.push x.born) ck)).heap[b]?=some (.map es ck):=by
   show(w1.heap.setIfInBounds r _)[b]?=_
   rw[Array.getElem?_setIfInBounds_ne (Ne.symm hne),hh];exact hb
  have hen:=run_entry_at (P:=P) _ r b ck seen es ck x h1 h2 hxe hst.2.1
  rw[hk,hv] at hrun hen
  simp[execOp,hop,hit,hrun,Result.andThen]
  exact hK' _ _ (hMore x k A n c _ hxe hxs (left_shrinks es seen x hx) hk hv (by rw[hf,hv]) h1 (hk1.block (.inl rfl) _) (by simp[setBlock,hh]) hen)
end
def SeenR (es:Array MapEntry) (f:Int->Option Value) (seen:Array Nat) (rows rd:Int->List Int):Prop :=
 (∀ x∈es.toList,∀ k,x.key=.int .i64 k->rd k=if seen.contains x.born then rows k else [])/\∀ k,f k=none->rd k=[]
theorem SeenR.start (es:Array MapEntry) (f:Int->Option Value) (rows:Int->List Int):SeenR es f #[] rows (fun _=>[]):=⟨fun x _ k _=>by simp,fun _ _=>rfl⟩
theorem SeenR.done {es:Array MapEntry} {ck:Nat} {f:Int->Option Value} {seen:Array Nat} {rows rd:Int->List Int} (h:SeenR es f seen rows rd) (hI:IM es ck f) (h7:∀ k,f k=none->rows k=[]) (hs:∀ x∈es.toList,seen.contains x.born=true):rd=rows:=by
 funext k
 cases hf:f k with
 | none=>rw[h.2 k hf,h7 k hf]
 | some v =>
  obtain⟨x,hx,hk⟩:=hI.2.2 k v hf
  rw[h.1 x hx k hk,if_pos (hs x hx)]
theorem SeenR.step {es:Array MapEntry} {ck:Nat} {f:Int->Option Value} {seen:Array Nat} {rows rd:Int->List Int} (h:SeenR es f seen rows rd) (hI:IM es ck f) {x:MapEntry} {k:Int} (hx:x∈es.toList) (hk:x.key=.int .i64 k):SeenR es f (seen.push x.born) rows (upd rd k (rows k)):=by
 have hst:=hI.1
 rw[stamped_iff] at hst
 refine⟨fun y hy j hj=>?_,fun j hj=>?_⟩
 ·rw[contains_push]
  by_cases hjk:j=k
  ·subst hjk
   have hxy:y=x:=entry_eq_of_key hst.2.2 hy hx (hj.trans hk.symm)
   subst hxy
   simp[upd]
  ·have hb:y.born≠x.born:=fun e=>by
    have:=born_inj hst.2.1 hy hx e
    subst this
    rw[hk] at hj
    injection hj with _ e2
    exact hjk e2.symm
   have hb':(y.born == x.born)=false:=by simpa using hb
   simp only[upd,hjk,if_false,hb',Bool.or_false]
   exact h.1 y hy j hj
 ·obtain⟨k',hk',hf⟩:=hI.2.1 x hx
  have hjk:j≠k:=by
   rintro rfl
   rw[hk] at hk'
   injection hk' with _ e2
   rw[<- e2,hj] at hf
   cases hf
  simp only[upd,hjk,if_false]
  exact h.2 j hj
end Go.Proofs.YtiebppkhaiofeaaGreat.K
namespace Go.Proofs
open Go.Shelf
def sortLays_ren:Go.Shelf.Ren:=⟨fun | 189=>139 | 125=>157 | 257=>156 | 128=>175 | 129=>176 | 294=>166 | 295=>167 | 296=>168 | 297=>169 | 298=>170 | 299=>171 | 216=>172 | 300=>173 | 301=>174 | 328=>180 | 329=>181 | 330=>182 | 331=>183 | 332=>184 | 215=>185 | 343=>186 | n=>n,fun | 28=>57 | 3=>3 | 46=>265 | 0=>0 | 51=>281 | 53=>268 | 4=>4 | 183=>275 | 182=>274 | 131=>75 | 5=>5 | 9=>9 | 218=>285 | 222=>289 | 228=>291 | 229=>292 | n=>n,fun | n=>n⟩
theorem sortLays:Go.Proofs.Lays.n189 Tryz.prog sortLays_ren:={
 mixed:=by kernel_rfl
 f125:=Tryz.func157.trans (congrArg some (by kernel_rfl))
 f128:=Tryz.func175.trans (congrArg some (by kernel_rfl))
 f129:=Tryz.func176.trans (congrArg some (by kernel_rfl))
 f189:=Tryz.func139.trans (congrArg some (by kernel_rfl))
 f215:=Tryz.func185.trans (congrArg some (by kernel_rfl))
 f216:=Tryz.func172.trans (congrArg some (by kernel_rfl))
 f257:=Tryz.func156.trans (congrArg some (by kernel_rfl))
 f294:=Tryz.func166.trans (congrArg some (by kernel_rfl))
 f295:=Tryz.func167.trans (congrArg some (by kernel_rfl))
 f296:=Tryz.func168.trans (congrArg some (by kernel_rfl))
 f297:=Tryz.func169.trans (congrArg some (by kernel_rfl))
 f298:=Tryz.func170.trans (congrArg some (by kernel_rfl))
 f299:=Tryz.func171.trans (congrArg some (by kernel_rfl))
 f300:=Tryz.func173.trans (congrArg some (by kernel_rfl))
 f301:=Tryz.func174.trans (congrArg some (by kernel_rfl))
 f328:=Tryz.func180.trans (congrArg some (by kernel_rfl))
 f329:=Tryz.func181.trans (congrArg some (by kernel_rfl))
 f330:=Tryz.func182.trans (congrArg some (by kernel_rfl))
 f331:=Tryz.func183.trans (congrArg some (by kernel_rfl))
 f332:=Tryz.func184.trans (congrArg some (by kernel_rfl))
 f343:=Tryz.func186.trans (congrArg some (by kernel_rfl))
 t0:=Tryz.underlying0
 a0:=Tryz.isAgg0
 z0:=Tryz.sizeOf0
 v0:=Tryz.zeroValue0
 t3:=Tryz.underlying3
 a3:=Tryz.isAgg3
 z3:=Tryz.sizeOf3
 v3:=Tryz.zeroValue3
 t4:=Tryz.underlying4
 a4:=Tryz.isAgg4
 z4:=Tryz.sizeOf4
 v4:=Tryz.zeroValue4
 t5:=Tryz.underlying5
 a5:=Tryz.isAgg5
 z5:=Tryz.sizeOf5
 v5:=Tryz.zeroValue5
 t9:=Tryz.underlying9
 a9:=Tryz.isAgg9
 z9:=Tryz.sizeOf9
 v9:=Tryz.zeroValue9
 t28:=Tryz.underlying57
 a28:=Tryz.isAgg57
 z28:=Tryz.sizeOf57
 v28:=Tryz.zeroValue57
 t46:=Tryz.underlying265
 a46:=Tryz.isAgg265
 z46:=Tryz.sizeOf265
 v46:=Tryz.zeroValue265
 t51:=Tryz.underlying281
 a51:=Tryz.isAgg281
 z51:=Tryz.sizeOf281
 v51:=Tryz.zeroValue281
 t53:=Tryz.underlying268
 a53:=Tryz.isAgg268
 z53:=Tryz.sizeOf268
 v53:=Tryz.zeroValue268
 t131:=Tryz.underlying75
 a131:=Tryz.isAgg75
 z131:=Tryz.sizeOf75
 v131:=Tryz.zeroValue75
 t182:=Tryz.underlying274
 a182:=Tryz.isAgg274
 z182:=Tryz.sizeOf274
 v182:=Tryz.zeroValue274
 t183:=Tryz.underlying275
 a183:=Tryz.isAgg275
 z183:=Tryz.sizeOf275
 v183:=Tryz.zeroValue275
 t218:=Tryz.underlying285
 a218:=Tryz.isAgg285
 z218:=Tryz.sizeOf285
 v218:=Tryz.zeroValue285
 t222:=Tryz.underlying289
 a222:=Tryz.isAgg289
 z222:=Tryz.sizeOf289
 v222:=Tryz.zeroValue289
 t228:=Tryz.underlying291
 a228:=Tryz.isAgg291
 z228:=Tryz.sizeOf291
 v228:=Tryz.zeroValue291
 t229:=Tryz.underlying292
 a229:=Tryz.isAgg292
 z229:=Tryz.sizeOf292
 v229:=Tryz.zeroValue292 }
def keysA_ren:Go.Shelf.Ren:=⟨fun | 7=>101 | 10=>141 | n=>n,fun | 23=>43 | 26=>3 | 3=>55 | 28=>206 | 0=>0 | 27=>205 | 33=>103 | 4=>4 | n=>n,fun | n=>n⟩
theorem keysA:Go.Proofs.SlLaysZI.n7 Tryz.prog keysA_ren:={
 mixed:=by kernel_rfl
 f7:=⟨Tryz.f101.name,by decide,Tryz.func101.trans (congrArg some (by kernel_rfl))⟩
 f10:=⟨Tryz.f141.name,by decide,Tryz.func141.trans (congrArg some (by kernel_rfl))⟩
 t0:=Tryz.underlying0
 a0:=Tryz.isAgg0
 z0:=Tryz.sizeOf0
 v0:=Tryz.zeroValue0
 t4:=Tryz.underlying4
 a4:=Tryz.isAgg4
 z4:=Tryz.sizeOf4
 v4:=Tryz.zeroValue4
 t23:=Tryz.underlying43
 a23:=Tryz.isAgg43
 z23:=Tryz.sizeOf43
 v23:=Tryz.zeroValue43
 t26:=Tryz.underlying3
 a26:=Tryz.isAgg3
 z26:=Tryz.sizeOf3
 v26:=Tryz.zeroValue3
 t27:=Tryz.underlying205
 a27:=Tryz.isAgg205
 z27:=Tryz.sizeOf205
 v27:=Tryz.zeroValue205
 t28:=Tryz.underlying206
 a28:=Tryz.isAgg206
 z28:=Tryz.sizeOf206
 v28:=Tryz.zeroValue206
 t33:=Tryz.underlying103
 a33:=Tryz.isAgg103
 z33:=Tryz.sizeOf103
 v33:=Tryz.zeroValue103 }
def sortedA_ren:Go.Shelf.Ren:=⟨fun | 6=>100 | 8=>140 | 9=>139 | 11=>158 | 13=>157 | 12=>156 | 23=>175 | 24=>176 | 14=>166 | 15=>167 | 16=>168 | 17=>169 | 18=>170 | 19=>171 | 20=>172 | 21=>173 | 22=>174 | 25=>180 | 26=>181 | 27=>182 | 28=>183 | 29=>184 | 30=>185 | 31=>186 | n=>n,fun | 26=>3 | 28=>206 | 24=>57 | 0=>0 | 3=>3 | 37=>265 | 48=>281 | 50=>268 | 4=>4 | 40=>275 | 39=>274 | 45=>75 | 5=>5 | 9=>9 | 51=>285 | 55=>289 | 57=>291 | 58=>292 | 33=>103 | n=>n,fun | n=>n⟩
theorem sortedA:Go.Proofs.SlLaysZI.n6 Tryz.prog sortedA_ren:={
 mixed:=by kernel_rfl
 f6:=⟨Tryz.f100.name,by decide,Tryz.func100.trans (congrArg some (by kernel_rfl))⟩
 f8:=⟨Tryz.f140.name,by decide,Tryz.func140.trans (congrArg some (by kernel_rfl))⟩
 f11:=⟨Tryz.f158.name,by decide,Tryz.func158.trans (congrArg some (by kernel_rfl))⟩
 t0:=Tryz.underlying0
 a0:=Tryz.isAgg0
 z0:=Tryz.sizeOf0
 v0:=Tryz.zeroValue0
 t24:=Tryz.underlying57
 a24:=Tryz.isAgg57
 z24:=Tryz.sizeOf57
 v24:=Tryz.zeroValue57
 t26:=Tryz.underlying3
 a26:=Tryz.isAgg3
 z26:=Tryz.sizeOf3
 v26:=Tryz.zeroValue3
 t28:=Tryz.underlying206
 a28:=Tryz.isAgg206
 z28:=Tryz.sizeOf206
 v28:=Tryz.zeroValue206
 i26:=by kernel_rfl }
end Go.Proofs
namespace Go.Proofs.YtiebppkhaiofeaaGreat.K
open Go.RowKit Go.Proofs.YtiebppkhaiofeaaGreatW.PrintWords Go.Proofs.YtiebppkhaiofeaaGreat.S
open Go.Shelf Go.Sort
theorem flat_int (xs:List Int):flat intE xs=xs.map (Value.int .i64):=by
 induction xs with
 | nil=>rfl
 | cons x xs ih=>simpa [flat,intE] using ih
theorem sortI_any {v:Value} {xs:List Int} {w:Go.World} (hO:OwnE intE v xs w) (hl:xs.length < 4611686018427387904):Calls Tryz.prog 139 #[v] w fun e w'=>e=.returned (.tuple #[])/\OwnE intE v (xs.mergeSort fun x y=>decide (x≤y)) w'/\KS (fun x=>x∈foot v) w w':=by
 rcases hO.cases with ⟨rfl,rfl⟩ | ⟨g,cap,cur,rfl,hg,h1,h2,h3,h4⟩
 ·refine(Any.slices_Sort_int_none sortLays none 0 w).mono ?_
  rintro e w' ⟨rfl,rfl⟩
  exact⟨rfl,by simpa using OwnE.nil _,KS.refl _ _⟩
 ·have e4:cur.toList.take xs.length=xs.map (Value.int .i64):=by rw[<- flat_int,<- h4];simp[intE]
  refine(Any.slices_Sort_int sortLays g 0 cap xs w (holds_of_blockI hg e4) (blk_lt hg) hl).mono ?_
  rintro e w' ⟨rfl,n,os,rfl⟩
  have hln:(xs.mergeSort fun x y=>decide (x≤y)).length=xs.length:=List.length_mergeSort _
  have k:=ownsRow_sortedI (w:=w) (base:=0) (g:=g) (cap:=cap) (n:=n) (os:=os) (ts:=xs.mergeSort fun x y=>decide (x≤y)) (ss:=xs) hln (Nat.zero_le _) hg h1 h2 (by rw[h3];rfl)
  have kg:=grownBy_sortedI (w:=w) (g:=g) (n:=n) (os:=os) (xs.mergeSort fun x y=>decide (x≤y)).toArray
  refine⟨rfl,?_,⟨kg.os,kg.tape,kg.output,kg.size,fun i hi hF=>kg.block i hi (fun e=>hF ?_)⟩⟩
  ·show World.ownsRow _ _ _ _ _ _ _
   rw[hln,flat_int]
   exact k
  ·simp[foot_slice]
   exact Option.some.inj e
end Go.Proofs.YtiebppkhaiofeaaGreat.K
namespace Go.Proofs.YtiebppkhaiofeaaGreat.K
open Go.RowKit Go.Proofs.YtiebppkhaiofeaaGreatW.PrintWords Go.Proofs.YtiebppkhaiofeaaGreat.S
attribute [local go_sem] World.cell?_alloc_some
open Go.ChangeMaps Go.MapKept
theorem linCopy_any {c:Cfg} {rows:Int->List Int} {b:Nat} {F:Set_} {w:Go.World} (hL:LinAt c rows b F w):Calls Tryz.prog 105 #[.pointer (some ⟨b,0,none⟩)] w (LinC c rows w):=by
 obtain⟨K,bm,es,ck,f,h1,h2,h3,h4,h5,h6,h7,h8,h9,hs⟩:=hL
 have NA:=AS (linNew_any c hs)
 have KEEP:=AS (show ∀ x,Below w.heap.size w x->(x.cell? ⟨b,0,none⟩=some (.int .i64 c.sets)/\x.cell? ⟨b,1,none⟩=some (.int .i64 c.ways)) from fun x hx=>by have h11:=blk_below h1 hx;exact⟨cw h11 0,cw h11 1⟩)
 have KM:=AS (show ∀ x,Below w.heap.size w x->(x.cell? ⟨b,2,none⟩=some (.map (some bm))/\x.heap[bm]?=some (.map es ck)) from fun x hx=>by have h11:=blk_below h1 hx;exact⟨cw h11 2,blk_below h2 hx⟩)
 have OA:=AS (show ∀ x k A n cp,Below w.heap.size w x->f k=some (.slice A n cp)->0≤k/\n=(rows k).length/\RowE intE x A (rows k)/\(A=none->rows k=[])/\(rows k).length≤16 from fun x k A n cp hx hf=>by
  obtain⟨k0,ho,-⟩:=h6 k _ hf
  have ho':=ho.ks (KS.below (fun _=>False) hx) (fun _ _=>id)
  obtain⟨A',cp',e,hrow,-,-,hnil⟩:=ho'.row
  injection e with e1 e2 e3
  subst e1
  exact⟨k0,e2,hrow,hnil,h8 k⟩)
 have SL:=AS (show ∀ x∈es.toList,∃ A n c,x.val=.slice A n c from fun x hx=>by
  obtain⟨k,-,hf⟩:=h3.2.1 x hx
  obtain⟨-,ho,-⟩:=h6 k _ hf
  obtain⟨A,cp,e,-⟩:=ho.row
  exact⟨A,_,cp,e⟩)
 have IA:=AS (And.intro h3 h7)
 obtain⟨e0_,e1_⟩:=KEEP.out w (Below.refl _ _)
 clear h1 h2 h3 h4 h5 h6 h7 h8 h9 hs
 go_enter Tryz.func105,Tryz.ntmps105
 go_upto_region 1 with fail
 go_region_held3 (fun x=>x.cell? ⟨b,0,none⟩=some (.int .i64 c.sets)/\x.cell? ⟨b,1,none⟩=some (.int .i64 c.ways)) ((refine KEEP.out _ ?_;(repeat (with_reducible first | exact Below.refl _ _ | exact B1.out | apply below_alloc | apply Below.drew)))) (((go_at_call 75;refine(NA.out w.drew).mono ?_;rintro e w1 ⟨m1,rfl,hM,hb⟩;have B1:=AS (show Below w.heap.size w w1 from(Below.drew (Below.refl _ _)).trans (hb.mono (Nat.le_refl _)));have M1:=AS hM;clear hM hb)))
 all_goals
  have e2_:=(KM.out w1 B1.out).1
  go_wp2_with (first | (at_range;refine wpList_range_im _ rfl _ 209 rfl 3 57 under209 bm rfl (KM.out w1 B1.out).2 ?_) | go_in)
  go_frame
  go_loopw [4,5] (fun v4 v5 wr=>∃ (seen:Array Nat) (rd:Int->List Int),Aside0 (LinAt c rd m1 (fun x=>w.heap.size≤x/\x≠w1.heap.size) wr/\SeenR es f seen rows rd/\wr.heap[w1.heap.size]?=some (.mapIter (some bm) ck seen ck)/\Below w.heap.size w wr)) (fun _ _ wr=>(leftOf es (wr.iterSeen w1.heap.size)).size)
  case atStart =>
   exact⟨#[],fun _=>[],⟨M1.out.keep (KS.below (fun _=>False) (below_alloc (Below.refl _ _) _)) (fun x hx hF=>⟨⟨hF,by omega⟩,id⟩),SeenR.start _ _ _,blk_new _ _,below_alloc B1.out _⟩⟩
  case round =>
   obtain⟨seen,rd,hR⟩:=hrel
   clear e0_ e1_ e2_
   go_wp2_with (first | (at_next;refine wpList_next_im _ rfl _ rfl w1.heap.size bm rfl hR.out.2.2.1 (KM.out _ hR.out.2.2.2).2 IA.out.1 SL.out ?_ ?_) | go_in)
   ·intro hall
    go_wp2
    go_ret
    have e:=hR.out.2.1.done IA.out.1 IA.out.2 (by simpa using hall)
    exact⟨_,rfl,e ▸ hR.out.1.keep (KS.refl (fun _=>False) _) (fun x _ hx=>⟨hx.1,id⟩),hR.out.2.2.2⟩
   ·intro x k A n cp w2 hx hsn hlt hk hv hf hr2 hk2 hsz hen
    have SS:=AS (And.intro (hR.out.2.1.step IA.out.1 (x:=x) (by simpa using hx) hk) (And.intro hr2 hlt))
    have hr0:=hR.out.2.2.1
    have hsB:=hR.out.2.2.2.size
    have hs1:=B1.out.size
    have B2:=AS (hR.out.2.2.2.trans (hk2.toBelow (fun y hy=>by have hy':y=w1.heap.size:=hy;omega) hsB))
    obtain⟨k0,rfl,hrow,hnil,hlen⟩:=OA.out w2 k A n cp B2.out hf
    obtain⟨K',bm',es',ck',f',g1,g2,g3,g4,g5,g6,g7,g8,g9,gs⟩:=hR.out.1.keep (F':=fun x=>w.heap.size≤x/\x≠w1.heap.size) hk2 (fun y _ hy=>⟨hy,hy.2⟩)
    have PUT:=AS (fun(w3:Go.World) (v':Value) (hb:Below w2.heap.size w2 w3) (hO:OwnE intE v' (rows k) w3) (hf:∀ x∈foot v',w2.heap.size≤x)=>linPut g1 g2 g3 g4 g5 g6 g7 g8 g9 gs k0 (KS.below _ hb) hO (fun x hx=>.inr (hf x hx)) hlen)
    have KEEP2:=AS (show ∀ x,Below w2.heap.size w2 x->x.cell? ⟨m1,2,none⟩=some (.map (some bm')) from fun x hx=>(cw (blk_below g1 hx) 2))
    have CL:=AS (show ∀ x,RowE intE x A (rows k)->Calls Tryz.prog 104 #[.slice A (rows k).length cp] x (NewRow intE (rows k) x) from fun x h=>cloneI_any h hnil (by show _ * 8≤_;omega))
    have OR:=AS (show ∀ x,Below w2.heap.size w2 x->RowE intE x A (rows k) from fun x h=>(OA.out x k A _ cp (B2.out.trans (h.mono B2.out.size)) hf).2.2.1)
    have SZ:=AS (And.intro (blk_lt hr0) hsz)
    have GB:=AS (And.intro g1 (And.intro g2 (show m1≠bm' from fun e=>by rw[e] at g4;omega)))
    clear g1 g2 g3 g4 g5 g6 g7 g8 g9 gs hrow hnil hlen hr2 hlt hk2 hx hsn hk hv hf hr0 hsB hs1 k0 hsz
    have y2:=KEEP2.out w2 (Below.refl _ _)
    go_upto_region 5 with fail
    go_region_held3 (fun x=>x.cell? ⟨m1,2,none⟩=some (.map (some bm'))) ((first | with_reducible assumption | refine KEEP2.out _ ?_;(repeat (with_reducible first | exact Below.refl _ _ | exact B3.out | apply below_alloc | apply Below.drew)))) (((go_at_call 104;refine(CL.out w2.drew (OR.out _ (Below.drew (Below.refl _ _)))).mono ?_;rintro e w3 ⟨v3,rfl,hO,hfo,hb⟩;have B3:=AS (show Below w2.heap.size w2 w3 from(Below.drew (Below.refl _ _)).trans (hb.mono (Nat.le_refl _)));obtain⟨es3,ck3,hup,hfin⟩:=PUT.out w3 v3 B3.out hO hfo;have FI:=AS hfin;have y4:(setBlock w3 bm' (.map es3 ck3)).cell? ⟨m1,2,none⟩=some (.map (some bm')):=cw ((set_far (blk_below GB.out.2.1 B3.out) _ GB.out.2.2).trans (blk_below GB.out.1 B3.out)) 2;obtain⟨A3,cp3,rfl,-⟩:=hO.row;clear hO hfo hb hfin)))
    all_goals
     have hw:=FI.out.2
     have hs4:=B2.out.size
     have hz:=SZ.out
     have hr4:=hw.at_ SS.out.2.1 (fun h=>h.2 rfl)
     go_roundw
     case rel=>exact⟨_,_,_,_,_,_,_,_,_,_,_,_,_,_,⟨_,_,⟨FI.out.1.keep (KS.refl (fun _=>False) _) (fun x _ hx=>⟨by rcases hx with h | h;exact h;exact⟨by omega,by omega⟩,id⟩),SS.out.1,hr4,B2.out.trans (hw.toBelow (fun x hx=>hx.1) hs4)⟩⟩,rfl⟩
     case measure =>
      have q:=SS.out.2.2
      simp only[World.iterSeen,hr4,hR.out.2.2.1]
      exact q
def SeenK (es:Array MapEntry) (seen:Array Nat) (ks:List Int):Prop:=ks.Nodup/\∀ x∈es.toList,∀ k,x.key=.int .i64 k->(k∈ks↔seen.contains x.born=true)
theorem SeenK.start (es:Array MapEntry):SeenK es #[] []:=⟨List.nodup_nil,fun x _ k _=>by simp⟩
theorem SeenK.step {es:Array MapEntry} {ck:Nat} {f:Int->Option Value} {seen:Array Nat} {ks:List Int} (h:SeenK es seen ks) (hI:IM es ck f) {x:MapEntry} {k:Int} (hx:x∈es.toList) (hs:seen.contains x.born=false) (hk:x.key=.int .i64 k):SeenK es (seen.push x.born) (ks ++ [k]):=by
 have hst:=hI.1
 rw[stamped_iff] at hst
 refine⟨?_,fun y hy j hj=>?_⟩
 ·rw[List.nodup_append]
  refine⟨h.1,by simp,fun a ha c hc=>?_⟩
  simp at hc
  subst hc
  rintro rfl
  have:=(h.2 x hx a hk).1 ha
  rw[hs] at this;cases this
 ·rw[contains_push]
  by_cases hjk:j=k
  ·subst hjk
   have hxy:y=x:=entry_eq_of_key hst.2.2 hy hx (hj.trans hk.symm)
   subst hxy
   simp
  ·have hb:y.born≠x.born:=fun e=>by
    have:=born_inj hst.2.1 hy hx e
    subst this
    rw[hk] at hj
    injection hj with _ e2
    exact hjk e2.symm
   have hb':(y.born == x.born)=false:=by simpa using hb
   simp only[hb',Bool.or_false,List.mem_append,List.mem_singleton,hjk,or_false]
   exact h.2 y hy j hj
def LinL (rows:Int->List Int) (w:Go.World) (e:Ending) (w':Go.World):Prop:=∃ (A:Option Addr) (n cp:Nat) (ks:List Int),e=.returned (.slice A n cp)/\ks.Nodup/\(∀ k,rows k≠[]->k∈ks)/\OwnE intE (.slice A n cp) ((ks.flatMap rows).mergeSort fun x y=>decide (x≤y)) w'/\(∀ x∈foot (.slice A n cp),w.heap.size≤x)/\Below w.heap.size w w'
theorem linList_any {c:Cfg} {rows:Int->List Int} {b:Nat} {F:Set_} {w:Go.World} (hL:LinAt c rows b F w) (hn:∀ ks:List Int,ks.Nodup->(ks.flatMap rows).length≤1000000):Calls Tryz.prog 99 #[.pointer (some ⟨b,0,none⟩)] w (LinL rows w):=by
 obtain⟨K,bm,es,ck,f,h1,h2,h3,h4,h5,h6,h7,h8,h9,hs⟩:=hL
 have KM:=AS (show ∀ x,Below w.heap.size w x->x.heap[bm]?=some (.map es ck) from fun x hx=>blk_below h2 hx)
 have OA:=AS (show ∀ x k A n cp,Below w.heap.size w x->f k=some (.slice A n cp)->n=(rows k).length/\RowE intE x A (rows k) from fun x k A n cp hx hf=>by
  obtain⟨k0,ho,-⟩:=h6 k _ hf
  have ho':=ho.ks (KS.below (fun _=>False) hx) (fun _ _=>id)
  obtain⟨A',cp',e,hrow,-⟩:=ho'.row
  injection e with e1 e2 e3
  subst e1
  exact⟨e2,hrow⟩)
 have SL:=AS (show ∀ x∈es.toList,∃ A n c,x.val=.slice A n c from fun x hx=>by
  obtain⟨k,-,hf⟩:=h3.2.1 x hx
  obtain⟨-,ho,-⟩:=h6 k _ hf
  obtain⟨A,cp,e,-⟩:=ho.row
  exact⟨A,_,cp,e⟩)
 have IA:=AS (And.intro h3 (And.intro h7 hn))
 have e2_:=cw h1 2 (v:=.map (some bm))
 clear h1 h2 h3 h4 h5 h6 h7 h8 h9 hs hn
 go_enter Tryz.func99,Tryz.ntmps99
 go_wp2_with (first | (at_range;refine wpList_range_im _ rfl _ 209 rfl 3 57 under209 bm rfl (KM.out w (Below.refl _ _)) ?_) | go_in)
 go_frame
 go_loopw [3,5] (fun v3 v5 wr=>∃ (A:Option Addr) (n cp:Nat) (seen:Array Nat) (ks:List Int),v3=.slice A n cp/\Aside0 (OwnE intE (.slice A n cp) (ks.flatMap rows) wr/\SeenK es seen ks/\wr.heap[w.heap.size]?=some (.mapIter (some bm) ck seen ck)/\Below w.heap.size w wr/\(∀ x∈foot (.slice A n cp),w.heap.size≤x/\x≠w.heap.size))) (fun _ _ wr=>(leftOf es (wr.iterSeen w.heap.size)).size)
 case atStart =>
  exact⟨none,0,0,#[],[],rfl,⟨OwnE.nil _,SeenK.start _,blk_new _ _,below_alloc (Below.refl _ _) _,by simp[foot_nil]⟩⟩
 case round =>
  obtain⟨A0,n0,c0,seen,ks,rfl,hR⟩:=hrel
  clear e2_
  go_wp2_with (first | (at_next;refine wpList_next_im _ rfl _ rfl w.heap.size bm rfl hR.out.2.2.1 (KM.out _ hR.out.2.2.2.1) IA.out.1 SL.out ?_ ?_) | go_in)
  ·intro hall
   have SO:=AS (sortI_any hR.out.1 (by have:=IA.out.2.2 ks hR.out.2.1.1;omega))
   have ALL:=AS (show ∀ k,rows k≠[]->k∈ks from fun k hk=>by
    cases hf:f k with
    | none=>exact absurd (IA.out.2.1 k hf) hk
    | some v =>
     obtain⟨x,hx,hkx⟩:=IA.out.1.2.2 k v hf
     exact(hR.out.2.1.2 x hx k hkx).2 (by have:=hall x (by simpa using hx);simpa using this))
   clear hall
   go_wp2_with fail
   refine SO.out.mono ?_
   rintro e w2 ⟨rfl,hO2,hk2⟩
   have X:=AS (And.intro hO2 hk2)
   clear hO2 hk2
   go_wp2
   go_ret
   exact⟨_,_,_,ks,rfl,hR.out.2.1.1,ALL.out,X.out.1,fun x hx=>(hR.out.2.2.2.2 x hx).1,hR.out.2.2.2.1.trans (X.out.2.toBelow (fun x hx=>(hR.out.2.2.2.2 x hx).1) hR.out.2.2.2.1.size)⟩
  ·intro x k A n cp w2 hx hsn hlt hk hv hf hr2 hk2 hsz hen
   have SS:=AS (And.intro (hR.out.2.1.step IA.out.1 (x:=x) (by simpa using hx) (by simpa using hsn) hk) (And.intro hr2 hlt))
   have hsB:=hR.out.2.2.2.1.size
   have B2:=AS (hR.out.2.2.2.1.trans (hk2.toBelow (fun y hy=>by have hy':y=w.heap.size:=hy;omega) hsB))
   obtain⟨rfl,hrow⟩:=OA.out w2 k A n cp B2.out hf
   have RA:=AS hrow
   have O2:=AS (hR.out.1.ks hk2 (fun y hy=>fun e=>(hR.out.2.2.2.2 y hy).2 e))
   have HL:=AS (show(ks.flatMap rows).length+(rows k).length≤1000000 from by
    have:=IA.out.2.2 (ks ++ [k]) SS.out.1.1
    simpa using this)
   have EQ:=AS (show(ks ++ [k]).flatMap rows=ks.flatMap rows ++ rows k by simp)
   clear hrow hr2 hlt hk2 hx hsn hk hv hf hsB
   go_wp2_with (first | (at_builtin;refine list_appE (E:=intE) (xs:=ks.flatMap rows) (ys:=rows k) (by kernel_rfl) _ _ rfl rfl rfl rfl (by exact O2.out) (by exact RA.out) (by have:=HL.out;show _ * 8≤_;omega) ?_;intro v1 w3 hO hK hf;obtain⟨A1,n1,k1,rfl⟩:∃ A n c,v1=.slice A n c:=(by obtain⟨A,c,h,_⟩:=OwnE.row hO;exact⟨_,_,_,h⟩);have O1:=AS hO;have K1:=AS hK;have F1:=AS hf;clear hO hK hf) | go_in)
   have hr4:w3.heap[w.heap.size]?=some (.mapIter (some bm) ck (seen.push x.born) ck):=(KS.keeps K1.out).at_ SS.out.2.1 (fun h=>(hR.out.2.2.2.2 _ h).2 rfl)
   have hs2:=B2.out.size
   have hlt2:=blk_lt SS.out.2.1
   go_roundw
   case rel =>
    refine⟨_,_,_,seen.push x.born,ks ++ [k],rfl,⟨?_,SS.out.1,hr4,B2.out.trans ((KS.keeps K1.out).toBelow (fun y hy=>(hR.out.2.2.2.2 y hy).1) hs2),?_⟩⟩
    ·rw[EQ.out];exact O1.out
    ·intro y hy
     rcases F1.out with e | e
     ·rw[e] at hy;exact hR.out.2.2.2.2 y hy
     ·rw[e] at hy;simp at hy;omega
   case measure =>
    have q:=SS.out.2.2
    simp only[World.iterSeen,hr4,hR.out.2.2.1]
    exact q
theorem cacCopy0_any {c:Cfg} {s:Cache} {b:Nat} {F:Set_} {w:Go.World} (hC:CacAt c s b F w):Calls Tryz.prog 78 #[.pointer (some ⟨b,0,none⟩)] w fun e w'=>∃ b',e=.returned (.pointer (some ⟨b',0,none⟩))/\CacAt c s b' (nw w) w'/\Below w.heap.size w w':=cacCopy_any (fun bl Fl W h=>linCopy_any h) hC
theorem CacB.lines {c:Cfg} {s:Cache} {b bl bt:Nat} {F:Set_} {w:Go.World} (h:CacB c s b bl bt F w):∃ Fl,LinAt c s.rows bl Fl w:=by obtain⟨Fl,es,ck,f,h1,h2,h3,h4,h5,h6⟩:=h;exact⟨Fl,h5⟩
def CacL (s:Cache) (w:Go.World) (e:Ending) (w':Go.World):Prop:=∃ (A:Option Addr) (n cp:Nat) (ks:List Int),e=.returned (.slice A n cp)/\ks.Nodup/\(∀ k,s.rows k≠[]->k∈ks)/\OwnE lineE (.slice A n cp) (((ks.flatMap s.rows).mergeSort fun x y=>decide (x≤y)).map fun x=>⟨x,s.tok x⟩) w'/\(∀ x∈foot (.slice A n cp),w.heap.size≤x)/\Below w.heap.size w w'
theorem cacAll_any {c:Cfg} {s:Cache} {b:Nat} {F:Set_} {w:Go.World} (hC:CacAt c s b F w) (hn:∀ ks:List Int,ks.Nodup->(ks.flatMap s.rows).length≤1000000):Calls Tryz.prog 67 #[.pointer (some ⟨b,0,none⟩)] w (CacL s w):=by
 obtain⟨bl,bt,P⟩:=hC.parts
 obtain⟨Fl,hL⟩:=P.lines
 have LL:=AS (linList_any hL hn)
 have LK:=AS (show ∀ x,Below w.heap.size w x->∀ k,(Instr.lookup 175 (.map (some bt)) (.int .i64 k) false).run Tryz.prog x=.ok (.agg #[.int .i64 (s.tok k).count,.bool (s.tok k).owner,.bool (s.tok k).has,.int .i64 (s.tok k).data]) x from fun x hx k=>by have:=(P.below hx).look k;simp only[bunV] at this;exact this)
 have KEEP:=AS (show ∀ x,Below w.heap.size w x->(x.cell? ⟨b,0,none⟩=some (.pointer (some ⟨bl,0,none⟩))/\x.cell? ⟨b,1,none⟩=some (.map (some bt))) from fun x hx=>by have h11:=blk_below P.blk hx;exact⟨cw h11 0,cw h11 1⟩)
 have HN:=AS hn
 obtain⟨e0_,e1_⟩:=KEEP.out w (Below.refl _ _)
 clear hC P hL hn
 go_enter Tryz.func67,Tryz.ntmps67
 go_wp2_with fail
 refine LL.out.mono ?_
 rintro e w1 ⟨A,n,cp,ks,rfl,h1,h2,hO,hf,hb⟩
 have NK:=AS (And.intro h1 h2)
 have B1:=AS hb
 have hlen:((ks.flatMap s.rows).mergeSort fun x y=>decide (x≤y)).length≤1000000:=by rw[List.length_mergeSort];exact HN.out ks h1
 have FIN:=AS (show ∀ (A':Option Addr) (n' cp':Nat) (w':Go.World),OwnE lineE (.slice A' n' cp') (((ks.flatMap s.rows).mergeSort fun x y=>decide (x≤y)).map fun x=>⟨x,s.tok x⟩) w'->(∀ x∈foot (.slice A' n' cp'),w1.heap.size≤x)->Below w1.heap.size w1 w'->CacL s w (.returned (.slice A' n' cp')) w' from fun A' n' cp' w' k1 k2 k3=>⟨A',n',cp',ks,rfl,h1,h2,k1,fun x hx=>Nat.le_trans hb.size (k2 x hx),hb.trans (k3.mono hb.size)⟩)
 generalize ((ks.flatMap s.rows).mergeSort fun x y=>decide (x≤y))=xs at *
 clear h1 h2 hb hf e0_ e1_ HN NK LL
 rcases hO.cases with ⟨e,hx⟩ | ⟨g,cap,cur,e,hg,hc1,hc2,-,-⟩
 ·injection e with e1 e2 e3
  subst e1 e2 e3 hx
  clear hO
  go_wp2
  refine wp_loop_rounds 1 ?_
  rw[rounds_succ]
  go_wp2
  go_ret
  exact FIN.out _ _ _ _ (OwnE.nil _) (by simp[foot_nil]) (Below.refl _ _)
 ·injection e with e1 e2 e3
  subst e1 e2 e3
  have OO:=AS hO
  clear hO hg
  go_wp2
  go_loopw [3,5,12] (fun v3 v5 v12 wr=>∃ (i:Nat) (A':Option Addr) (n' cp':Nat),v3=.slice A' n' cp'/\v12=.int .i64 i/\i≤xs.length/\Aside0 (OwnE lineE (.slice A' n' cp') ((xs.take i).map fun x=>⟨x,s.tok x⟩) wr/\Below w1.heap.size w1 wr/\(∀ x∈foot (.slice A' n' cp'),w1.heap.size≤x))) (fun _ _ v12 _=>xs.length+1 - (intOf v12).toNat)
  case atStart=>exact⟨0,none,0,0,rfl,rfl,Nat.zero_le _,⟨OwnE.nil _,Below.refl _ _,by simp[foot_nil]⟩⟩
  case round =>
   obtain⟨i,A0,n0,c0,rfl,rfl,hi,R⟩:=hrel
   by_cases c1:i < xs.length
   ·have c2:wr.cell? ⟨g,i,none⟩=some (.int .i64 (xs.getD i 0)):=int_cells (OO.out.ks (KS.below (fun _=>False) R.out.2.1) (fun _ _=>id)) c1
    have TK:=AS (show xs.take (i+1)=xs.take i ++ [xs.getD i 0] by rw[List.take_add_one];simp[List.getD,c1])
    generalize xs.getD i 0=x at *
    have BW:=AS (B1.out.trans (R.out.2.1.mono B1.out.size))
    have lk:=LK.out wr BW.out x
    obtain⟨e0_,e1_⟩:=KEEP.out wr BW.out
    have X:=AS (blk_new wr (.cells (lineC ⟨x,s.tok x⟩).toArray 61))
    have RW:=AS (rowE_one (E:=lineE) (x:=⟨x,s.tok x⟩) X.out)
    have O:=AS (R.out.1.keep (Keeps.below [] (below_alloc (Below.refl _ wr) (.cells (lineC ⟨x,s.tok x⟩).toArray 61))) (by simp))
    have B:=AS (below_alloc R.out.2.1 (.cells (lineC ⟨x,s.tok x⟩).toArray 61))
    have FT:=AS R.out.2.2
    have HL:=AS (show(xs.take i).length≤1000000 by rw[List.length_take];omega)
    clear R
    go_wp2_with (first | (at_builtin;refine list_appE (E:=lineE) (xs:=(xs.take i).map fun x=>⟨x,s.tok x⟩) (ys:=[⟨x,s.tok x⟩]) (by kernel_rfl) _ _ rfl rfl rfl rfl (by exact O.out) (by exact RW.out) (by have:=HL.out;show _ * 32≤_;simp only[List.length_map,List.length_singleton];omega) ?_;intro v1 w3 hO hK hf;obtain⟨A1,n1,k1,rfl⟩:∃ A n c,v1=.slice A n c:=(by obtain⟨A,c,h,_⟩:=OwnE.row hO;exact⟨_,_,_,h⟩);have O1:=AS hO;have K1:=AS hK;have F1:=AS hf;clear hO hK hf) | go_in)
    go_roundw
    case rel =>
     refine⟨i+1,_,_,_,rfl,by go_num,by omega,⟨?_,?_,?_⟩⟩
     ·rw[TK.out,List.map_append]
      exact O1.out
     ·exact B.out.trans (K1.out.toBelow FT.out (by have:=B.out.size;simpa using this))
     ·intro y hy
      rcases F1.out with e | e
      ·rw[e] at hy;exact FT.out y hy
      ·rw[e] at hy;have h2:=B.out.size;simp at hy h2;omega
    case measure=>simp[intOf];omega
   ·obtain rfl:i=xs.length:=by omega
    have RR:=AS R.out
    clear R
    go_wp2
    go_ret
    exact FIN.out _ _ _ _ (by have:=RR.out.1;rwa [List.take_length] at this) RR.out.2.2 RR.out.2.1
end Go.Proofs.YtiebppkhaiofeaaGreat.K
namespace Go.Proofs.YtiebppkhaiofeaaGreat.K
open Go.RowKit Go.Maps Go.Sort Go.Shelf
theorem sortsA (m:Nat):AnyZI.SortsIn Tryz.prog sortedA_ren Fence.wide m :=
 ⟨fun blk off cap ss W hH hblk hsz=>callsIn_wide.2 (Any.slices_Sort_int sortLays blk off cap ss W hH hblk hsz),
 fun p cap W=>callsIn_wide.2 (Any.slices_Sort_int_none sortLays p cap W)⟩
theorem keys101_any (mb:Option Nat) (W:Go.World):Calls Tryz.prog 101 #[.map mb] W fun e w'=>e=.returned (.func (.func 141) #[] #[.pointer (some ⟨W.heap.size,0,none⟩)])/\w'=W.alloc (.cells #[.map mb] 43) :=
 (callsIn_wide (n:=5)).1 (AnyZI.keys_in keysA Fence.wide 5 trivial rfl mb W)
set_option maxHeartbeats 1000000 in
theorem sorted100_any {H:Type} (b nn:Nat) (D0:DataW H) (R:Value->Option (DataW H×List MemPlace)) (w:Go.World) (hown:w.ownsMap Tryz.prog 3 R b nn D0) (hmax:Maps.size D0≤maxLen) (hbytes:Maps.size D0 * 8≤140737488355328) :
  Calls Tryz.prog 100 #[.func (.func 141) #[] #[.pointer (some ⟨w.heap.size,0,none⟩)]] (w.alloc (.cells #[.map (some b)] 43)) fun e w'=>∃ (v:Value) (ss:List Int),e=.returned v/\ss.Perm (intKeys D0) /\
   w'.ownsRow (w.alloc (.cells #[.map (some b)] 43)).heap.size 3 1 v ss.length ((ss.mergeSort (fun x y=>decide (x≤y))).map encZ)/\(v=.slice none 0 0↔ss=[])/\Below (w.alloc (.cells #[.map (some b)] 43)).heap.size (w.alloc (.cells #[.map (some b)] 43)) w':=by
 refine(callsIn_wide (n:=5)).1 ?_
 have hbl:=hown.lt
 have hseq:SeqGives Fence.wide 2 Tryz.prog 141 #[.pointer (some ⟨w.heap.size,0,none⟩)] encZ (fun ss=>ss.Perm (intKeys D0)) (Maps.size D0) (w.alloc (.cells #[.map (some b)] 43)) :=
  AnyZI.keys_gives (ρ:=keysA_ren) { keysA with } Fence.wide _ trivial rfl (by omega) w.heap.size b nn D0 _ (by simp) (by simp) (by
   obtain⟨es,clock,hb,Ft,hs,hD⟩:=hown
   exact⟨es,clock,(Below.heap_alloc _ _ b hbl).trans hb,Ft,hs,hD⟩)
 have cS:=AnyZI.sorted_in sortedA Fence.wide 5 trivial trivial trivial trivial rfl (by omega) (sortsA _) (enters_of Tryz.func139 (by kernel_rfl) rfl) 141 #[.pointer (some ⟨w.heap.size,0,none⟩)] trivial (enters_of Tryz.func141 (by kernel_rfl) rfl) _ _ hmax hbytes _ hseq
 change CallsIn _ _ Tryz.prog 100 _ _ _ at cS
 exact cS
end Go.Proofs.YtiebppkhaiofeaaGreat.K
