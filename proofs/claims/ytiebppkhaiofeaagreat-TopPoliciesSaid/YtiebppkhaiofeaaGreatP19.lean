/- Part of the proof of TopPolicies: what functions of the program do. -/
import Derived.Maps.RangeRun
import Derived.Maps.RangeWalk
import Derived.Shelf.Sort.Plain
import Derived.Ground.Names2Prog
import Derived.Shelf.Slices.In.SortNone
import Derived.Sort.OwnSortedInts
import Derived.Shelf.SlIterI.Nil
import Derived.Ground.GgzProg
import Derived.Shelf.SlGeneric
import Derived.Test.YtiebppkhaiofeaaGreatP09
import Derived.Test.YtiebppkhaiofeaaGreatP00
set_option maxHeartbeats 4000000
set_option maxRecDepth 100000
set_option linter.unusedVariables false
set_option linter.unusedSimpArgs false
open Go.IntKind renaming i64→I
open Go.Value renaming slice→J, int→V, bool→aA, pointer→bA
open Option renaming some→M, none→U
open Go.Obj renaming cells→O
open Go.ChangeMaps renaming setBlock→aB
open Go renaming Calls→bB, World→cA
open Go.Proofs.Tryz renaming prog→dA
open Go.Proofs.YtiebppkhaiofeaaGreatW.PrintWords renaming below_alloc→eA, blk_lt→eB, blk_drew→fB, blk_frozen→jA, blk_below→kA, blk_alloc→lA, blk_set→mA, blk_new→nA, blk_cell→oB
open Go.RowKit.Below renaming refl→fA, drew→iA
open Go.Proofs.YtiebppkhaiofeaaGreat.K renaming sz_alloc→gB, sz_drew→iB
open Nat renaming le_trans→lB, le_refl→pA
open Go.Proofs.YtiebppkhaiofeaaGreat.K.KS renaming below→pB, refl→qB, drew→sB, set1→tB
open And renaming intro→qA
open List renaming mem_append→sA, mem_singleton→tA
open Go.Proofs.YtiebppkhaiofeaaGreat (vB xB yB zB)
namespace Go.Proofs.YtiebppkhaiofeaaGreat.K
open Go.RowKit Go.Proofs.YtiebppkhaiofeaaGreatW.PrintWords Go.Proofs.YtiebppkhaiofeaaGreat.S
open Go.ChangeMaps Go.MapKept
theorem ks_draw {w1 w:World} (h:w1=w∨w1=w.drew) (F:Set_):KS F w w1/\w1.heap=w.heap:=by
 rcases h with rfl | rfl
 ·exact⟨qB _ _,rfl⟩
 ·exact⟨(qB _ _).drew,rfl⟩
section
variable {P:Program} (w:World) {ops:Array Oper} {rest:List Oper} {o:Oper} {a:Act} {Q:Exit->Act->World->Prop}
theorem wpList_range_im (hg:o.guard=U) (m:Operand) (t:TypeId) (hop:o.op=Op.range t m) (k e:TypeId) (ht:P.underlying t=M (.map k e)) (b:Nat) {es:Array MapEntry} {ck:Nat}
  (hm:a.eval m=.map (M b)) (hb:w.heap[b]?=M (.map es ck))
  (hK:wpList P ops Q rest (a.put o.dst (bA (M ⟨w.heap.size,0,U⟩))) (w.alloc (.mapIter (M b) ck #[] ck))) :
  wpList P ops Q (o :: rest) a w:=by
 refine wpList_plain hg fun K' hK'=>?_
 unfold Oper.wp
 simp[execOp,hop,hm,run_range_map w t k e b es ck ht hb,Result.andThen]
 exact hK' _ _ hK
theorem wpList_next_im (hg:o.guard=U) (it:Operand) (hop:o.op=Op.next it false) (r b:Nat) {seen:Array Nat} {es:Array MapEntry} {ck:Nat} {f:Int->Option Value}
  (hit:a.eval it=bA (M ⟨r,0,U⟩)) (hr:w.heap[r]?=M (.mapIter (M b) ck seen ck)) (hb:w.heap[b]?=M (.map es ck)) (hI:IM es ck f) (hS:∀ x∈es.toList,∃ A n c,x.val=J A n c)
  (hDone:(∀ x∈es.toList,seen.contains x.born=true)->wpList P ops Q rest (a.put o.dst (.tuple #[aA false])) w)
  (hMore:∀ (x:MapEntry) (k:Int) (A:Option Addr) (n c:Nat) (w':World),x∈es.toList->seen.contains x.born=false->(leftOf es (seen.push x.born)).size < (leftOf es seen).size->x.key=V I k->x.val=J A n c->f k=M (J A n c) ->
   w'.heap[r]?=M (.mapIter (M b) ck (seen.push x.born) ck)->KS (fun y=>y=r) w w'->w'.heap.size=w.heap.size->(Instr.entry (bA (M ⟨r,0,U⟩))).run P w'=.ok (.tuple #[V I k,J A n c]) w'->wpList P ops Q rest (a.put o.dst (.tuple #[aA true,V I k,J A n c])) w') :
  wpList P ops Q (o :: rest) a w:=by
 refine wpList_plain hg fun K' hK'=>?_
 unfold Oper.wp
 have hst:=hI.1
 rw[stamped_iff] at hst
 rcases run_next_at (P:=P) w o.type r b ck ck seen es ck hr hb hst.1 (pA _) with ⟨h0,hrun⟩ | ⟨x,hx,w1,hw1,hrun⟩
 ·simp[execOp,hop,hit,hrun,Result.andThen]
  exact hK' _ _ (hDone (all_seen es seen h0))
 ·obtain⟨hxe,hxs⟩:=mem_left hx
  obtain⟨k,hk,hf⟩:=hI.2.1 x hxe
  obtain⟨A,n,c,hv⟩:=hS x hxe
  obtain⟨hk1,hh⟩:=ks_draw hw1 (fun y=>y=r)
  have hr1:w1.heap[r]?=M (.mapIter (M b) ck seen ck):=by rw[hh];exact hr
  have hne:b≠r:=by rintro rfl;rw[hr] at hb;cases hb
  have hlt:=eB hr1
  have h1:(aB w1 r (.mapIter (M b) ck (seen.push x.born) ck)).heap[r]?=M (.mapIter (M b) ck (seen.push x.born) ck):=by
   show(w1.heap.setIfInBounds r _)[r]?=_
   rw[Array.getElem?_setIfInBounds_self_of_lt hlt]
  have h2:(aB w1 r (.mapIter (M b) ck (seen.push x.born) ck)).heap[b]?=M (.map es ck):=by
   show(w1.heap.setIfInBounds r _)[b]?=_
   rw[Array.getElem?_setIfInBounds_ne (Ne.symm hne),hh];exact hb
  have hen:=run_entry_at (P:=P) _ r b ck seen es ck x h1 h2 hxe hst.2.1
  rw[hk,hv] at hrun hen
  simp[execOp,hop,hit,hrun,Result.andThen]
  exact hK' _ _ (hMore x k A n c _ hxe hxs (left_shrinks es seen x hx) hk hv (by rw[hf,hv]) h1 (hk1.block (.inl rfl) _) (by simp[aB,hh]) hen)
end
def SeenR (es:Array MapEntry) (f:Int->Option Value) (seen:Array Nat) (rows rd:Int->List Int):Prop :=
 (∀ x∈es.toList,∀ k,x.key=V I k->rd k=if seen.contains x.born then rows k else [])/\∀ k,f k=U->rd k=[]
theorem SeenR.start (es:Array MapEntry) (f:Int->Option Value) (rows:Int->List Int):SeenR es f #[] rows (fun _=>[]):=⟨fun x _ k _=>by simp,fun _ _=>rfl⟩
theorem SeenR.done {es:Array MapEntry} {ck:Nat} {f:Int->Option Value} {seen:Array Nat} {rows rd:Int->List Int} (h:SeenR es f seen rows rd) (hI:IM es ck f) (h7:∀ k,f k=U->rows k=[]) (hs:∀ x∈es.toList,seen.contains x.born=true):rd=rows:=by
 funext k
 cases hf:f k with
 | none=>rw[h.2 k hf,h7 k hf]
 | some v =>
  obtain⟨x,hx,hk⟩:=hI.2.2 k v hf
  rw[h.1 x hx k hk,if_pos (hs x hx)]
theorem SeenR.step {es:Array MapEntry} {ck:Nat} {f:Int->Option Value} {seen:Array Nat} {rows rd:Int->List Int} (h:SeenR es f seen rows rd) (hI:IM es ck f) {x:MapEntry} {k:Int} (hx:x∈es.toList) (hk:x.key=V I k):SeenR es f (seen.push x.born) rows (upd rd k (rows k)):=by
 have hst:=hI.1
 rw[stamped_iff] at hst
 refine⟨fun y hy j hj=>?_,fun j hj=>?_⟩
 ·rw[contains_push]
  by_cases hjk:j=k
  ·subst hjk
   have hxy:y=x:=entry_eq_of_key hst.2.2 hy hx (hj.trans hk.symm)
   subst hxy
   simp[upd]
  ·have hb:y.born≠x.born:=fun e=>by
    have:=born_inj hst.2.1 hy hx e
    subst this
    rw[hk] at hj
    injection hj with _ e2
    exact hjk e2.symm
   have hb':(y.born == x.born)=false:=by simpa using hb
   simp only[upd,hjk,if_false,hb',Bool.or_false]
   exact h.1 y hy j hj
 ·obtain⟨k',hk',hf⟩:=hI.2.1 x hx
  have hjk:j≠k:=by
   rintro rfl
   rw[hk] at hk'
   injection hk' with _ e2
   rw[<- e2,hj] at hf
   cases hf
  simp only[upd,hjk,if_false]
  exact h.2 j hj
end Go.Proofs.YtiebppkhaiofeaaGreat.K
namespace Go.Proofs
open Go.Shelf
def sortLays_ren:Go.Shelf.Ren:=⟨fun | 189=>139 | 125=>157 | 257=>156 | 128=>175 | 129=>176 | 294=>166 | 295=>167 | 296=>168 | 297=>169 | 298=>170 | 299=>171 | 216=>172 | 300=>173 | 301=>174 | 328=>180 | 329=>181 | 330=>182 | 331=>183 | 332=>184 | 215=>185 | 343=>186 | n=>n,fun | 28=>57 | 3=>3 | 46=>265 | 0=>0 | 51=>281 | 53=>268 | 4=>4 | 183=>275 | 182=>274 | 131=>75 | 5=>5 | 9=>9 | 218=>285 | 222=>289 | 228=>291 | 229=>292 | n=>n,fun | n=>n⟩
theorem sortLays:Go.Proofs.Lays.n189 dA sortLays_ren:={
 mixed:=by kernel_rfl
 f125:=Tryz.func157.trans (congrArg M xB)
 f128:=Tryz.func175.trans (congrArg M xB)
 f129:=Tryz.func176.trans (congrArg M xB)
 f189:=Tryz.func139.trans (congrArg M xB)
 f215:=Tryz.func185.trans (congrArg M xB)
 f216:=Tryz.func172.trans (congrArg M xB)
 f257:=Tryz.func156.trans (congrArg M xB)
 f294:=Tryz.func166.trans (congrArg M xB)
 f295:=Tryz.func167.trans (congrArg M xB)
 f296:=Tryz.func168.trans (congrArg M xB)
 f297:=Tryz.func169.trans (congrArg M xB)
 f298:=Tryz.func170.trans (congrArg M xB)
 f299:=Tryz.func171.trans (congrArg M xB)
 f300:=Tryz.func173.trans (congrArg M xB)
 f301:=Tryz.func174.trans (congrArg M xB)
 f328:=Tryz.func180.trans (congrArg M xB)
 f329:=Tryz.func181.trans (congrArg M xB)
 f330:=Tryz.func182.trans (congrArg M xB)
 f331:=Tryz.func183.trans (congrArg M xB)
 f332:=Tryz.func184.trans (congrArg M xB)
 f343:=Tryz.func186.trans (congrArg M xB)
 t0:=Tryz.underlying0
 a0:=Tryz.isAgg0
 z0:=Tryz.sizeOf0
 v0:=Tryz.zeroValue0
 t3:=Tryz.underlying3
 a3:=Tryz.isAgg3
 z3:=Tryz.sizeOf3
 v3:=Tryz.zeroValue3
 t4:=Tryz.underlying4
 a4:=Tryz.isAgg4
 z4:=Tryz.sizeOf4
 v4:=Tryz.zeroValue4
 t5:=Tryz.underlying5
 a5:=Tryz.isAgg5
 z5:=Tryz.sizeOf5
 v5:=Tryz.zeroValue5
 t9:=Tryz.underlying9
 a9:=Tryz.isAgg9
 z9:=Tryz.sizeOf9
 v9:=Tryz.zeroValue9
 t28:=Tryz.underlying57
 a28:=Tryz.isAgg57
 z28:=Tryz.sizeOf57
 v28:=Tryz.zeroValue57
 t46:=Tryz.underlying265
 a46:=Tryz.isAgg265
 z46:=Tryz.sizeOf265
 v46:=Tryz.zeroValue265
 t51:=Tryz.underlying281
 a51:=Tryz.isAgg281
 z51:=Tryz.sizeOf281
 v51:=Tryz.zeroValue281
 t53:=Tryz.underlying268
 a53:=Tryz.isAgg268
 z53:=Tryz.sizeOf268
 v53:=Tryz.zeroValue268
 t131:=Tryz.underlying75
 a131:=Tryz.isAgg75
 z131:=Tryz.sizeOf75
 v131:=Tryz.zeroValue75
 t182:=Tryz.underlying274
 a182:=Tryz.isAgg274
 z182:=Tryz.sizeOf274
 v182:=Tryz.zeroValue274
 t183:=Tryz.underlying275
 a183:=Tryz.isAgg275
 z183:=Tryz.sizeOf275
 v183:=Tryz.zeroValue275
 t218:=Tryz.underlying285
 a218:=Tryz.isAgg285
 z218:=Tryz.sizeOf285
 v218:=Tryz.zeroValue285
 t222:=Tryz.underlying289
 a222:=Tryz.isAgg289
 z222:=Tryz.sizeOf289
 v222:=Tryz.zeroValue289
 t228:=Tryz.underlying291
 a228:=Tryz.isAgg291
 z228:=Tryz.sizeOf291
 v228:=Tryz.zeroValue291
 t229:=Tryz.underlying292
 a229:=Tryz.isAgg292
 z229:=Tryz.sizeOf292
 v229:=Tryz.zeroValue292 }
def keysA_ren:Go.Shelf.Ren:=⟨fun | 7=>101 | 10=>141 | n=>n,fun | 23=>43 | 26=>3 | 3=>55 | 28=>206 | 0=>0 | 27=>205 | 33=>103 | 4=>4 | n=>n,fun | n=>n⟩
theorem keysA:Go.Proofs.SlLaysZI.n7 dA keysA_ren:={
 mixed:=by kernel_rfl
 f7:=⟨Tryz.f101.name,yB,Tryz.func101.trans (congrArg M xB)⟩
 f10:=⟨Tryz.f141.name,yB,Tryz.func141.trans (congrArg M xB)⟩
 t0:=Tryz.underlying0
 a0:=Tryz.isAgg0
 z0:=Tryz.sizeOf0
 v0:=Tryz.zeroValue0
 t4:=Tryz.underlying4
 a4:=Tryz.isAgg4
 z4:=Tryz.sizeOf4
 v4:=Tryz.zeroValue4
 t23:=Tryz.underlying43
 a23:=Tryz.isAgg43
 z23:=Tryz.sizeOf43
 v23:=Tryz.zeroValue43
 t26:=Tryz.underlying3
 a26:=Tryz.isAgg3
 z26:=Tryz.sizeOf3
 v26:=Tryz.zeroValue3
 t27:=Tryz.underlying205
 a27:=Tryz.isAgg205
 z27:=Tryz.sizeOf205
 v27:=Tryz.zeroValue205
 t28:=Tryz.underlying206
 a28:=Tryz.isAgg206
 z28:=Tryz.sizeOf206
 v28:=Tryz.zeroValue206
 t33:=Tryz.underlying103
 a33:=Tryz.isAgg103
 z33:=Tryz.sizeOf103
 v33:=Tryz.zeroValue103 }
def sortedA_ren:Go.Shelf.Ren:=⟨fun | 6=>100 | 8=>140 | 9=>139 | 11=>158 | 13=>157 | 12=>156 | 23=>175 | 24=>176 | 14=>166 | 15=>167 | 16=>168 | 17=>169 | 18=>170 | 19=>171 | 20=>172 | 21=>173 | 22=>174 | 25=>180 | 26=>181 | 27=>182 | 28=>183 | 29=>184 | 30=>185 | 31=>186 | n=>n,fun | 26=>3 | 28=>206 | 24=>57 | 0=>0 | 3=>3 | 37=>265 | 48=>281 | 50=>268 | 4=>4 | 40=>275 | 39=>274 | 45=>75 | 5=>5 | 9=>9 | 51=>285 | 55=>289 | 57=>291 | 58=>292 | 33=>103 | n=>n,fun | n=>n⟩
theorem sortedA:Go.Proofs.SlLaysZI.n6 dA sortedA_ren:={
 mixed:=by kernel_rfl
 f6:=⟨Tryz.f100.name,yB,Tryz.func100.trans (congrArg M xB)⟩
 f8:=⟨Tryz.f140.name,yB,Tryz.func140.trans (congrArg M xB)⟩
 f11:=⟨Tryz.f158.name,yB,Tryz.func158.trans (congrArg M xB)⟩
 t0:=Tryz.underlying0
 a0:=Tryz.isAgg0
 z0:=Tryz.sizeOf0
 v0:=Tryz.zeroValue0
 t24:=Tryz.underlying57
 a24:=Tryz.isAgg57
 z24:=Tryz.sizeOf57
 v24:=Tryz.zeroValue57
 t26:=Tryz.underlying3
 a26:=Tryz.isAgg3
 z26:=Tryz.sizeOf3
 v26:=Tryz.zeroValue3
 t28:=Tryz.underlying206
 a28:=Tryz.isAgg206
 z28:=Tryz.sizeOf206
 v28:=Tryz.zeroValue206
 i26:=by kernel_rfl }
end Go.Proofs
namespace Go.Proofs.YtiebppkhaiofeaaGreat.K
open Go.RowKit Go.Proofs.YtiebppkhaiofeaaGreatW.PrintWords Go.Proofs.YtiebppkhaiofeaaGreat.S
open Go.Shelf Go.Sort
theorem flat_int (xs:List Int):flat intE xs=xs.map (Value.int .i64):=by
 induction xs with
 | nil=>rfl
 | cons x xs ih=>simpa [flat,intE] using ih
theorem sortI_any {v:Value} {xs:List Int} {w:cA} (hO:OwnE intE v xs w) (hl:xs.length < 4611686018427387904):bB dA 139 #[v] w fun e w'=>e=.returned (.tuple #[])/\OwnE intE v (xs.mergeSort fun x y=>decide (x≤y)) w'/\KS (fun x=>x∈foot v) w w':=by
 rcases hO.cases with ⟨rfl,rfl⟩ | ⟨g,cap,cur,rfl,hg,h1,h2,h3,h4⟩
 ·refine(Any.slices_Sort_int_none sortLays U 0 w).mono ?_
  rintro e w' ⟨rfl,rfl⟩
  exact⟨rfl,by simpa using OwnE.nil _,qB _ _⟩
 ·have e4:cur.toList.take xs.length=xs.map (Value.int .i64):=by rw[<- flat_int,<- h4];simp[intE]
  refine(Any.slices_Sort_int sortLays g 0 cap xs w (holds_of_blockI hg e4) (eB hg) hl).mono ?_
  rintro e w' ⟨rfl,n,os,rfl⟩
  have hln:(xs.mergeSort fun x y=>decide (x≤y)).length=xs.length:=List.length_mergeSort _
  have k:=ownsRow_sortedI (w:=w) (base:=0) (g:=g) (cap:=cap) (n:=n) (os:=os) (ts:=xs.mergeSort fun x y=>decide (x≤y)) (ss:=xs) hln (Nat.zero_le _) hg h1 h2 (by rw[h3];rfl)
  have kg:=grownBy_sortedI (w:=w) (g:=g) (n:=n) (os:=os) (xs.mergeSort fun x y=>decide (x≤y)).toArray
  refine⟨rfl,?_,⟨kg.os,kg.tape,kg.output,kg.size,fun i hi hF=>kg.block i hi (fun e=>hF ?_)⟩⟩
  ·show World.ownsRow _ _ _ _ _ _ _
   rw[hln,flat_int]
   exact k
  ·simp[foot_slice]
   exact Option.some.inj e
end Go.Proofs.YtiebppkhaiofeaaGreat.K
namespace Go.Proofs.YtiebppkhaiofeaaGreat.K
open Go.RowKit Go.Proofs.YtiebppkhaiofeaaGreatW.PrintWords Go.Proofs.YtiebppkhaiofeaaGreat.S
attribute [local go_sem] World.cell?_alloc_some
open Go.ChangeMaps Go.MapKept
theorem linCopy_any {c:Cfg} {rows:Int->List Int} {b:Nat} {F:Set_} {w:cA} (hL:LinAt c rows b F w):bB dA 105 #[bA (M ⟨b,0,U⟩)] w (LinC c rows w):=by
 obtain⟨K,bm,es,ck,f,h1,h2,h3,h4,h5,h6,h7,h8,h9,hs⟩:=hL
 have NA:=AS (linNew_any c hs)
 have KEEP:=AS (show ∀ x,Below w.heap.size w x->(x.cell? ⟨b,0,U⟩=M (V I c.sets)/\x.cell? ⟨b,1,U⟩=M (V I c.ways)) from fun x hx=>by have h11:=kA h1 hx;exact⟨cw h11 0,cw h11 1⟩)
 have KM:=AS (show ∀ x,Below w.heap.size w x->(x.cell? ⟨b,2,U⟩=M (.map (M bm))/\x.heap[bm]?=M (.map es ck)) from fun x hx=>by have h11:=kA h1 hx;exact⟨cw h11 2,kA h2 hx⟩)
 have OA:=AS (show ∀ x k A n cp,Below w.heap.size w x->f k=M (J A n cp)->0≤k/\n=(rows k).length/\RowE intE x A (rows k)/\(A=U->rows k=[])/\(rows k).length≤16 from fun x k A n cp hx hf=>by
  obtain⟨k0,ho,-⟩:=h6 k _ hf
  have ho':=ho.ks (pB (fun _=>False) hx) (fun _ _=>id)
  obtain⟨A',cp',e,hrow,-,-,hnil⟩:=ho'.row
  injection e with e1 e2 e3
  subst e1
  exact⟨k0,e2,hrow,hnil,h8 k⟩)
 have SL:=AS (show ∀ x∈es.toList,∃ A n c,x.val=J A n c from fun x hx=>by
  obtain⟨k,-,hf⟩:=h3.2.1 x hx
  obtain⟨-,ho,-⟩:=h6 k _ hf
  obtain⟨A,cp,e,-⟩:=ho.row
  exact⟨A,_,cp,e⟩)
 have IA:=AS (qA h3 h7)
 obtain⟨e0_,e1_⟩:=KEEP.out w (fA _ _)
 clear h1 h2 h3 h4 h5 h6 h7 h8 h9 hs
 go_enter Tryz.func105,Tryz.ntmps105
 go_upto_region 1 with fail
 go_region_held3 (fun x=>x.cell? ⟨b,0,U⟩=M (V I c.sets)/\x.cell? ⟨b,1,U⟩=M (V I c.ways)) ((refine KEEP.out _ ?_;(repeat (with_reducible first | exact fA _ _ | exact B1.out | apply eA | apply iA)))) (((go_at_call 75;refine(NA.out w.drew).mono ?_;rintro e w1 ⟨m1,rfl,hM,hb⟩;have B1:=AS (show Below w.heap.size w w1 from(iA (fA _ _)).trans (hb.mono (pA _)));have M1:=AS hM;clear hM hb)))
 all_goals
  have e2_:=(KM.out w1 B1.out).1
  go_wp2_with (first | (at_range;refine wpList_range_im _ rfl _ 209 rfl 3 57 under209 bm rfl (KM.out w1 B1.out).2 ?_) | go_in)
  go_frame
  go_loopw [4,5] (fun v4 v5 wr=>∃ (seen:Array Nat) (rd:Int->List Int),Aside0 (LinAt c rd m1 (fun x=>w.heap.size≤x/\x≠w1.heap.size) wr/\SeenR es f seen rows rd/\wr.heap[w1.heap.size]?=M (.mapIter (M bm) ck seen ck)/\Below w.heap.size w wr)) (fun _ _ wr=>(leftOf es (wr.iterSeen w1.heap.size)).size)
  case atStart =>
   exact⟨#[],fun _=>[],⟨M1.out.keep (pB (fun _=>False) (eA (fA _ _) _)) (fun x hx hF=>⟨⟨hF,vB⟩,id⟩),SeenR.start _ _ _,nA _ _,eA B1.out _⟩⟩
  case round =>
   obtain⟨seen,rd,hR⟩:=hrel
   clear e0_ e1_ e2_
   go_wp2_with (first | (at_next;refine wpList_next_im _ rfl _ rfl w1.heap.size bm rfl hR.out.2.2.1 (KM.out _ hR.out.2.2.2).2 IA.out.1 SL.out ?_ ?_) | go_in)
   ·intro hall
    go_wp2
    go_ret
    have e:=hR.out.2.1.done IA.out.1 IA.out.2 (by simpa using hall)
    exact⟨_,rfl,e ▸ hR.out.1.keep (qB (fun _=>False) _) (fun x _ hx=>⟨hx.1,id⟩),hR.out.2.2.2⟩
   ·intro x k A n cp w2 hx hsn hlt hk hv hf hr2 hk2 hsz hen
    have SS:=AS (qA (hR.out.2.1.step IA.out.1 (x:=x) (by simpa using hx) hk) (qA hr2 hlt))
    have hr0:=hR.out.2.2.1
    have hsB:=hR.out.2.2.2.size
    have hs1:=B1.out.size
    have B2:=AS (hR.out.2.2.2.trans (hk2.toBelow (fun y hy=>by have hy':y=w1.heap.size:=hy;omega) hsB))
    obtain⟨k0,rfl,hrow,hnil,hlen⟩:=OA.out w2 k A n cp B2.out hf
    obtain⟨K',bm',es',ck',f',g1,g2,g3,g4,g5,g6,g7,g8,g9,gs⟩:=hR.out.1.keep (F':=fun x=>w.heap.size≤x/\x≠w1.heap.size) hk2 (fun y _ hy=>⟨hy,hy.2⟩)
    have PUT:=AS (fun(w3:cA) (v':Value) (hb:Below w2.heap.size w2 w3) (hO:OwnE intE v' (rows k) w3) (hf:∀ x∈foot v',w2.heap.size≤x)=>linPut g1 g2 g3 g4 g5 g6 g7 g8 g9 gs k0 (pB _ hb) hO (fun x hx=>.inr (hf x hx)) hlen)
    have KEEP2:=AS (show ∀ x,Below w2.heap.size w2 x->x.cell? ⟨m1,2,U⟩=M (.map (M bm')) from fun x hx=>(cw (kA g1 hx) 2))
    have CL:=AS (show ∀ x,RowE intE x A (rows k)->bB dA 104 #[J A (rows k).length cp] x (NewRow intE (rows k) x) from fun x h=>cloneI_any h hnil (by show _ * 8≤_;omega))
    have OR:=AS (show ∀ x,Below w2.heap.size w2 x->RowE intE x A (rows k) from fun x h=>(OA.out x k A _ cp (B2.out.trans (h.mono B2.out.size)) hf).2.2.1)
    have SZ:=AS (qA (eB hr0) hsz)
    have GB:=AS (qA g1 (qA g2 (show m1≠bm' from fun e=>by rw[e] at g4;omega)))
    clear g1 g2 g3 g4 g5 g6 g7 g8 g9 gs hrow hnil hlen hr2 hlt hk2 hx hsn hk hv hf hr0 hsB hs1 k0 hsz
    have y2:=KEEP2.out w2 (fA _ _)
    go_upto_region 5 with fail
    go_region_held3 (fun x=>x.cell? ⟨m1,2,U⟩=M (.map (M bm'))) ((first | with_reducible assumption | refine KEEP2.out _ ?_;(repeat (with_reducible first | exact fA _ _ | exact B3.out | apply eA | apply iA)))) (((go_at_call 104;refine(CL.out w2.drew (OR.out _ (iA (fA _ _)))).mono ?_;rintro e w3 ⟨v3,rfl,hO,hfo,hb⟩;have B3:=AS (show Below w2.heap.size w2 w3 from(iA (fA _ _)).trans (hb.mono (pA _)));obtain⟨es3,ck3,hup,hfin⟩:=PUT.out w3 v3 B3.out hO hfo;have FI:=AS hfin;have y4:(aB w3 bm' (.map es3 ck3)).cell? ⟨m1,2,U⟩=M (.map (M bm')):=cw ((set_far (kA GB.out.2.1 B3.out) _ GB.out.2.2).trans (kA GB.out.1 B3.out)) 2;obtain⟨A3,cp3,rfl,-⟩:=hO.row;clear hO hfo hb hfin)))
    all_goals
     have hw:=FI.out.2
     have hs4:=B2.out.size
     have hz:=SZ.out
     have hr4:=hw.at_ SS.out.2.1 (fun h=>h.2 rfl)
     go_roundw
     case rel=>exact⟨_,_,_,_,_,_,_,_,_,_,_,_,_,_,⟨_,_,⟨FI.out.1.keep (qB (fun _=>False) _) (fun x _ hx=>⟨by rcases hx with h | h;exact h;exact⟨vB,vB⟩,id⟩),SS.out.1,hr4,B2.out.trans (hw.toBelow (fun x hx=>hx.1) hs4)⟩⟩,rfl⟩
     case measure =>
      have q:=SS.out.2.2
      simp only[World.iterSeen,hr4,hR.out.2.2.1]
      exact q
def SeenK (es:Array MapEntry) (seen:Array Nat) (ks:List Int):Prop:=ks.Nodup/\∀ x∈es.toList,∀ k,x.key=V I k->(k∈ks↔seen.contains x.born=true)
theorem SeenK.start (es:Array MapEntry):SeenK es #[] []:=⟨List.nodup_nil,fun x _ k _=>by simp⟩
theorem SeenK.step {es:Array MapEntry} {ck:Nat} {f:Int->Option Value} {seen:Array Nat} {ks:List Int} (h:SeenK es seen ks) (hI:IM es ck f) {x:MapEntry} {k:Int} (hx:x∈es.toList) (hs:seen.contains x.born=false) (hk:x.key=V I k):SeenK es (seen.push x.born) (ks ++ [k]):=by
 have hst:=hI.1
 rw[stamped_iff] at hst
 refine⟨?_,fun y hy j hj=>?_⟩
 ·rw[List.nodup_append]
  refine⟨h.1,zB,fun a ha c hc=>?_⟩
  simp at hc
  subst hc
  rintro rfl
  have:=(h.2 x hx a hk).1 ha
  rw[hs] at this;cases this
 ·rw[contains_push]
  by_cases hjk:j=k
  ·subst hjk
   have hxy:y=x:=entry_eq_of_key hst.2.2 hy hx (hj.trans hk.symm)
   subst hxy
   simp
  ·have hb:y.born≠x.born:=fun e=>by
    have:=born_inj hst.2.1 hy hx e
    subst this
    rw[hk] at hj
    injection hj with _ e2
    exact hjk e2.symm
   have hb':(y.born == x.born)=false:=by simpa using hb
   simp only[hb',Bool.or_false,sA,tA,hjk,or_false]
   exact h.2 y hy j hj
def LinL (rows:Int->List Int) (w:cA) (e:Ending) (w':cA):Prop:=∃ (A:Option Addr) (n cp:Nat) (ks:List Int),e=.returned (J A n cp)/\ks.Nodup/\(∀ k,rows k≠[]->k∈ks)/\OwnE intE (J A n cp) ((ks.flatMap rows).mergeSort fun x y=>decide (x≤y)) w'/\(∀ x∈foot (J A n cp),w.heap.size≤x)/\Below w.heap.size w w'
theorem linList_any {c:Cfg} {rows:Int->List Int} {b:Nat} {F:Set_} {w:cA} (hL:LinAt c rows b F w) (hn:∀ ks:List Int,ks.Nodup->(ks.flatMap rows).length≤1000000):bB dA 99 #[bA (M ⟨b,0,U⟩)] w (LinL rows w):=by
 obtain⟨K,bm,es,ck,f,h1,h2,h3,h4,h5,h6,h7,h8,h9,hs⟩:=hL
 have KM:=AS (show ∀ x,Below w.heap.size w x->x.heap[bm]?=M (.map es ck) from fun x hx=>kA h2 hx)
 have OA:=AS (show ∀ x k A n cp,Below w.heap.size w x->f k=M (J A n cp)->n=(rows k).length/\RowE intE x A (rows k) from fun x k A n cp hx hf=>by
  obtain⟨k0,ho,-⟩:=h6 k _ hf
  have ho':=ho.ks (pB (fun _=>False) hx) (fun _ _=>id)
  obtain⟨A',cp',e,hrow,-⟩:=ho'.row
  injection e with e1 e2 e3
  subst e1
  exact⟨e2,hrow⟩)
 have SL:=AS (show ∀ x∈es.toList,∃ A n c,x.val=J A n c from fun x hx=>by
  obtain⟨k,-,hf⟩:=h3.2.1 x hx
  obtain⟨-,ho,-⟩:=h6 k _ hf
  obtain⟨A,cp,e,-⟩:=ho.row
  exact⟨A,_,cp,e⟩)
 have IA:=AS (qA h3 (qA h7 hn))
 have e2_:=cw h1 2 (v:=.map (M bm))
 clear h1 h2 h3 h4 h5 h6 h7 h8 h9 hs hn
 go_enter Tryz.func99,Tryz.ntmps99
 go_wp2_with (first | (at_range;refine wpList_range_im _ rfl _ 209 rfl 3 57 under209 bm rfl (KM.out w (fA _ _)) ?_) | go_in)
 go_frame
 go_loopw [3,5] (fun v3 v5 wr=>∃ (A:Option Addr) (n cp:Nat) (seen:Array Nat) (ks:List Int),v3=J A n cp/\Aside0 (OwnE intE (J A n cp) (ks.flatMap rows) wr/\SeenK es seen ks/\wr.heap[w.heap.size]?=M (.mapIter (M bm) ck seen ck)/\Below w.heap.size w wr/\(∀ x∈foot (J A n cp),w.heap.size≤x/\x≠w.heap.size))) (fun _ _ wr=>(leftOf es (wr.iterSeen w.heap.size)).size)
 case atStart =>
  exact⟨U,0,0,#[],[],rfl,⟨OwnE.nil _,SeenK.start _,nA _ _,eA (fA _ _) _,by simp[foot_nil]⟩⟩
 case round =>
  obtain⟨A0,n0,c0,seen,ks,rfl,hR⟩:=hrel
  clear e2_
  go_wp2_with (first | (at_next;refine wpList_next_im _ rfl _ rfl w.heap.size bm rfl hR.out.2.2.1 (KM.out _ hR.out.2.2.2.1) IA.out.1 SL.out ?_ ?_) | go_in)
  ·intro hall
   have SO:=AS (sortI_any hR.out.1 (by have:=IA.out.2.2 ks hR.out.2.1.1;omega))
   have ALL:=AS (show ∀ k,rows k≠[]->k∈ks from fun k hk=>by
    cases hf:f k with
    | none=>exact absurd (IA.out.2.1 k hf) hk
    | some v =>
     obtain⟨x,hx,hkx⟩:=IA.out.1.2.2 k v hf
     exact(hR.out.2.1.2 x hx k hkx).2 (by have:=hall x (by simpa using hx);simpa using this))
   clear hall
   go_wp2_with fail
   refine SO.out.mono ?_
   rintro e w2 ⟨rfl,hO2,hk2⟩
   have X:=AS (qA hO2 hk2)
   clear hO2 hk2
   go_wp2
   go_ret
   exact⟨_,_,_,ks,rfl,hR.out.2.1.1,ALL.out,X.out.1,fun x hx=>(hR.out.2.2.2.2 x hx).1,hR.out.2.2.2.1.trans (X.out.2.toBelow (fun x hx=>(hR.out.2.2.2.2 x hx).1) hR.out.2.2.2.1.size)⟩
  ·intro x k A n cp w2 hx hsn hlt hk hv hf hr2 hk2 hsz hen
   have SS:=AS (qA (hR.out.2.1.step IA.out.1 (x:=x) (by simpa using hx) (by simpa using hsn) hk) (qA hr2 hlt))
   have hsB:=hR.out.2.2.2.1.size
   have B2:=AS (hR.out.2.2.2.1.trans (hk2.toBelow (fun y hy=>by have hy':y=w.heap.size:=hy;omega) hsB))
   obtain⟨rfl,hrow⟩:=OA.out w2 k A n cp B2.out hf
   have RA:=AS hrow
   have O2:=AS (hR.out.1.ks hk2 (fun y hy=>fun e=>(hR.out.2.2.2.2 y hy).2 e))
   have HL:=AS (show(ks.flatMap rows).length+(rows k).length≤1000000 from by
    have:=IA.out.2.2 (ks ++ [k]) SS.out.1.1
    simpa using this)
   have EQ:=AS (show(ks ++ [k]).flatMap rows=ks.flatMap rows ++ rows k by simp)
   clear hrow hr2 hlt hk2 hx hsn hk hv hf hsB
   go_wp2_with (first | (at_builtin;refine list_appE (E:=intE) (xs:=ks.flatMap rows) (ys:=rows k) xB _ _ rfl rfl rfl rfl (by exact O2.out) (by exact RA.out) (by have:=HL.out;show _ * 8≤_;omega) ?_;intro v1 w3 hO hK hf;obtain⟨A1,n1,k1,rfl⟩:∃ A n c,v1=J A n c:=(by obtain⟨A,c,h,_⟩:=OwnE.row hO;exact⟨_,_,_,h⟩);have O1:=AS hO;have K1:=AS hK;have F1:=AS hf;clear hO hK hf) | go_in)
   have hr4:w3.heap[w.heap.size]?=M (.mapIter (M bm) ck (seen.push x.born) ck):=(KS.keeps K1.out).at_ SS.out.2.1 (fun h=>(hR.out.2.2.2.2 _ h).2 rfl)
   have hs2:=B2.out.size
   have hlt2:=eB SS.out.2.1
   go_roundw
   case rel =>
    refine⟨_,_,_,seen.push x.born,ks ++ [k],rfl,⟨?_,SS.out.1,hr4,B2.out.trans ((KS.keeps K1.out).toBelow (fun y hy=>(hR.out.2.2.2.2 y hy).1) hs2),?_⟩⟩
    ·rw[EQ.out];exact O1.out
    ·intro y hy
     rcases F1.out with e | e
     ·rw[e] at hy;exact hR.out.2.2.2.2 y hy
     ·rw[e] at hy;simp at hy;omega
   case measure =>
    have q:=SS.out.2.2
    simp only[World.iterSeen,hr4,hR.out.2.2.1]
    exact q
theorem cacCopy0_any {c:Cfg} {s:Cache} {b:Nat} {F:Set_} {w:cA} (hC:CacAt c s b F w):bB dA 78 #[bA (M ⟨b,0,U⟩)] w fun e w'=>∃ b',e=.returned (bA (M ⟨b',0,U⟩))/\CacAt c s b' (nw w) w'/\Below w.heap.size w w':=cacCopy_any (fun bl Fl W h=>linCopy_any h) hC
theorem CacB.lines {c:Cfg} {s:Cache} {b bl bt:Nat} {F:Set_} {w:cA} (h:CacB c s b bl bt F w):∃ Fl,LinAt c s.rows bl Fl w:=by obtain⟨Fl,es,ck,f,h1,h2,h3,h4,h5,h6⟩:=h;exact⟨Fl,h5⟩
def CacL (s:Cache) (w:cA) (e:Ending) (w':cA):Prop:=∃ (A:Option Addr) (n cp:Nat) (ks:List Int),e=.returned (J A n cp)/\ks.Nodup/\(∀ k,s.rows k≠[]->k∈ks)/\OwnE lineE (J A n cp) (((ks.flatMap s.rows).mergeSort fun x y=>decide (x≤y)).map fun x=>⟨x,s.tok x⟩) w'/\(∀ x∈foot (J A n cp),w.heap.size≤x)/\Below w.heap.size w w'
theorem cacAll_any {c:Cfg} {s:Cache} {b:Nat} {F:Set_} {w:cA} (hC:CacAt c s b F w) (hn:∀ ks:List Int,ks.Nodup->(ks.flatMap s.rows).length≤1000000):bB dA 67 #[bA (M ⟨b,0,U⟩)] w (CacL s w):=by
 obtain⟨bl,bt,P⟩:=hC.parts
 obtain⟨Fl,hL⟩:=P.lines
 have LL:=AS (linList_any hL hn)
 have LK:=AS (show ∀ x,Below w.heap.size w x->∀ k,(Instr.lookup 175 (.map (M bt)) (V I k) false).run dA x=.ok (.agg #[V I (s.tok k).count,aA (s.tok k).owner,aA (s.tok k).has,V I (s.tok k).data]) x from fun x hx k=>by have:=(P.below hx).look k;simp only[bunV] at this;exact this)
 have KEEP:=AS (show ∀ x,Below w.heap.size w x->(x.cell? ⟨b,0,U⟩=M (bA (M ⟨bl,0,U⟩))/\x.cell? ⟨b,1,U⟩=M (.map (M bt))) from fun x hx=>by have h11:=kA P.blk hx;exact⟨cw h11 0,cw h11 1⟩)
 have HN:=AS hn
 obtain⟨e0_,e1_⟩:=KEEP.out w (fA _ _)
 clear hC P hL hn
 go_enter Tryz.func67,Tryz.ntmps67
 go_wp2_with fail
 refine LL.out.mono ?_
 rintro e w1 ⟨A,n,cp,ks,rfl,h1,h2,hO,hf,hb⟩
 have NK:=AS (qA h1 h2)
 have B1:=AS hb
 have hlen:((ks.flatMap s.rows).mergeSort fun x y=>decide (x≤y)).length≤1000000:=by rw[List.length_mergeSort];exact HN.out ks h1
 have FIN:=AS (show ∀ (A':Option Addr) (n' cp':Nat) (w':cA),OwnE lineE (J A' n' cp') (((ks.flatMap s.rows).mergeSort fun x y=>decide (x≤y)).map fun x=>⟨x,s.tok x⟩) w'->(∀ x∈foot (J A' n' cp'),w1.heap.size≤x)->Below w1.heap.size w1 w'->CacL s w (.returned (J A' n' cp')) w' from fun A' n' cp' w' k1 k2 k3=>⟨A',n',cp',ks,rfl,h1,h2,k1,fun x hx=>lB hb.size (k2 x hx),hb.trans (k3.mono hb.size)⟩)
 generalize ((ks.flatMap s.rows).mergeSort fun x y=>decide (x≤y))=xs at *
 clear h1 h2 hb hf e0_ e1_ HN NK LL
 rcases hO.cases with ⟨e,hx⟩ | ⟨g,cap,cur,e,hg,hc1,hc2,-,-⟩
 ·injection e with e1 e2 e3
  subst e1 e2 e3 hx
  clear hO
  go_wp2
  refine wp_loop_rounds 1 ?_
  rw[rounds_succ]
  go_wp2
  go_ret
  exact FIN.out _ _ _ _ (OwnE.nil _) (by simp[foot_nil]) (fA _ _)
 ·injection e with e1 e2 e3
  subst e1 e2 e3
  have OO:=AS hO
  clear hO hg
  go_wp2
  go_loopw [3,5,12] (fun v3 v5 v12 wr=>∃ (i:Nat) (A':Option Addr) (n' cp':Nat),v3=J A' n' cp'/\v12=V I i/\i≤xs.length/\Aside0 (OwnE lineE (J A' n' cp') ((xs.take i).map fun x=>⟨x,s.tok x⟩) wr/\Below w1.heap.size w1 wr/\(∀ x∈foot (J A' n' cp'),w1.heap.size≤x))) (fun _ _ v12 _=>xs.length+1 - (intOf v12).toNat)
  case atStart=>exact⟨0,U,0,0,rfl,rfl,Nat.zero_le _,⟨OwnE.nil _,fA _ _,by simp[foot_nil]⟩⟩
  case round =>
   obtain⟨i,A0,n0,c0,rfl,rfl,hi,R⟩:=hrel
   by_cases c1:i < xs.length
   ·have c2:wr.cell? ⟨g,i,U⟩=M (V I (xs.getD i 0)):=int_cells (OO.out.ks (pB (fun _=>False) R.out.2.1) (fun _ _=>id)) c1
    have TK:=AS (show xs.take (i+1)=xs.take i ++ [xs.getD i 0] by rw[List.take_add_one];simp[List.getD,c1])
    generalize xs.getD i 0=x at *
    have BW:=AS (B1.out.trans (R.out.2.1.mono B1.out.size))
    have lk:=LK.out wr BW.out x
    obtain⟨e0_,e1_⟩:=KEEP.out wr BW.out
    have X:=AS (nA wr (O (lineC ⟨x,s.tok x⟩).toArray 61))
    have RW:=AS (rowE_one (E:=lineE) (x:=⟨x,s.tok x⟩) X.out)
    have O_:=AS (R.out.1.keep (Keeps.below [] (eA (fA _ wr) (O (lineC ⟨x,s.tok x⟩).toArray 61))) zB)
    have B:=AS (eA R.out.2.1 (O (lineC ⟨x,s.tok x⟩).toArray 61))
    have FT:=AS R.out.2.2
    have HL:=AS (show(xs.take i).length≤1000000 by rw[List.length_take];omega)
    clear R
    go_wp2_with (first | (at_builtin;refine list_appE (E:=lineE) (xs:=(xs.take i).map fun x=>⟨x,s.tok x⟩) (ys:=[⟨x,s.tok x⟩]) xB _ _ rfl rfl rfl rfl (by exact O_.out) (by exact RW.out) (by have:=HL.out;show _ * 32≤_;simp only[List.length_map,List.length_singleton];omega) ?_;intro v1 w3 hO hK hf;obtain⟨A1,n1,k1,rfl⟩:∃ A n c,v1=J A n c:=(by obtain⟨A,c,h,_⟩:=OwnE.row hO;exact⟨_,_,_,h⟩);have O1:=AS hO;have K1:=AS hK;have F1:=AS hf;clear hO hK hf) | go_in)
    go_roundw
    case rel =>
     refine⟨i+1,_,_,_,rfl,by go_num,vB,⟨?_,?_,?_⟩⟩
     ·rw[TK.out,List.map_append]
      exact O1.out
     ·exact B.out.trans (K1.out.toBelow FT.out (by have:=B.out.size;simpa using this))
     ·intro y hy
      rcases F1.out with e | e
      ·rw[e] at hy;exact FT.out y hy
      ·rw[e] at hy;have h2:=B.out.size;simp at hy h2;omega
    case measure=>simp[intOf];omega
   ·obtain rfl:i=xs.length:=vB
    have RR:=AS R.out
    clear R
    go_wp2
    go_ret
    exact FIN.out _ _ _ _ (by have:=RR.out.1;rwa [List.take_length] at this) RR.out.2.2 RR.out.2.1
end Go.Proofs.YtiebppkhaiofeaaGreat.K
namespace Go.Proofs.YtiebppkhaiofeaaGreat.K
open Go.RowKit Go.Maps Go.Sort Go.Shelf
theorem sortsA (m:Nat):AnyZI.SortsIn dA sortedA_ren Fence.wide m :=
 ⟨fun blk off cap ss W hH hblk hsz=>callsIn_wide.2 (Any.slices_Sort_int sortLays blk off cap ss W hH hblk hsz),
 fun p cap W=>callsIn_wide.2 (Any.slices_Sort_int_none sortLays p cap W)⟩
theorem keys101_any (mb:Option Nat) (W:cA):bB dA 101 #[.map mb] W fun e w'=>e=.returned (.func (.func 141) #[] #[bA (M ⟨W.heap.size,0,U⟩)])/\w'=W.alloc (O #[.map mb] 43) :=
 (callsIn_wide (n:=5)).1 (AnyZI.keys_in keysA Fence.wide 5 trivial rfl mb W)
set_option maxHeartbeats 1000000 in
theorem sorted100_any {H:Type} (b nn:Nat) (D0:DataW H) (R:Value->Option (DataW H×List MemPlace)) (w:cA) (hown:w.ownsMap dA 3 R b nn D0) (hmax:Maps.size D0≤maxLen) (hbytes:Maps.size D0 * 8≤140737488355328) :
  bB dA 100 #[.func (.func 141) #[] #[bA (M ⟨w.heap.size,0,U⟩)]] (w.alloc (O #[.map (M b)] 43)) fun e w'=>∃ (v:Value) (ss:List Int),e=.returned v/\ss.Perm (intKeys D0) /\
   w'.ownsRow (w.alloc (O #[.map (M b)] 43)).heap.size 3 1 v ss.length ((ss.mergeSort (fun x y=>decide (x≤y))).map encZ)/\(v=J U 0 0↔ss=[])/\Below (w.alloc (O #[.map (M b)] 43)).heap.size (w.alloc (O #[.map (M b)] 43)) w':=by
 refine(callsIn_wide (n:=5)).1 ?_
 have hbl:=hown.lt
 have hseq:SeqGives Fence.wide 2 dA 141 #[bA (M ⟨w.heap.size,0,U⟩)] encZ (fun ss=>ss.Perm (intKeys D0)) (Maps.size D0) (w.alloc (O #[.map (M b)] 43)) :=
  AnyZI.keys_gives (ρ:=keysA_ren) { keysA with } Fence.wide _ trivial rfl vB w.heap.size b nn D0 _ zB zB (by
   obtain⟨es,clock,hb,Ft,hs,hD⟩:=hown
   exact⟨es,clock,(Below.heap_alloc _ _ b hbl).trans hb,Ft,hs,hD⟩)
 have cS:=AnyZI.sorted_in sortedA Fence.wide 5 trivial trivial trivial trivial rfl vB (sortsA _) (enters_of Tryz.func139 xB rfl) 141 #[bA (M ⟨w.heap.size,0,U⟩)] trivial (enters_of Tryz.func141 xB rfl) _ _ hmax hbytes _ hseq
 change CallsIn _ _ dA 100 _ _ _ at cS
 exact cS
end Go.Proofs.YtiebppkhaiofeaaGreat.K
namespace Go.Proofs.YtiebppkhaiofeaaGreat.K
open Go.RowKit Go.Maps Go.Shelf Go.MapKept
open Go.WideElems (Fit rd rg rg_of)
open Go.WideShapes (sorted_perm)
theorem nodup_le:∀ (n:Nat) (l:List Nat),l.Nodup->(∀ x∈l,x < n)->l.length≤n
 | 0,l,_,h=>by
  cases l with
  | nil=>simp
  | cons a t=>exact absurd (h a zB) vB
 | n+1,l,hn,h=>by
  have h1:=nodup_le n (l.erase n) (hn.erase n) (fun x hx=>by
   have h2:=h x (List.mem_of_mem_erase hx)
   have h3:x≠n:=fun e=>by subst e;exact(List.Nodup.not_mem_erase hn) hx
   omega)
  by_cases hm:n∈l
  ·rw[List.length_erase_of_mem hm] at h1;omega
  ·rw[List.erase_of_not_mem hm] at h1;omega
def R0:Value->Option (DataW Unit×List MemPlace):=fun _=>M (.nil,[])
def keyI (x:MapEntry):Int:=match x.key with | .int _ k=>k | _=>0
theorem im_rd {es:Array MapEntry} {ck:Nat} {f:Int->Option Value} (hI:IM es ck f) (hw:∀ k,(f k).isSome->0≤k/\k < 64) {x:MapEntry} (hx:x∈es.toList):rd dA 3 R0 x=M (.int .i64 (keyI x),.nil)/\0≤keyI x/\keyI x < 64/\f (keyI x)=M x.val/\x.key=.int .i64 (keyI x):=by
 obtain⟨k,hk,hf⟩:=hI.2.1 x hx
 have e:keyI x=k:=by simp[keyI,hk]
 have h2:=hw k (by rw[hf];rfl)
 rw[e]
 refine⟨?_,h2.1,h2.2,hf,hk⟩
 have hwf:(Lit.int .i64 k).wf=true:=by
  have m1:IntKind.i64.min = -9223372036854775808:=by decide
  have m2:IntKind.i64.max=9223372036854775807:=by decide
  simp only[Lit.wf,m1,m2,Bool.and_eq_true,decide_eq_true_eq]
  omega
 simp[rd,hk,keyOf_int_mk under3 hwf,R0]
theorem im_nodup {es:Array MapEntry} {ck:Nat} {f:Int->Option Value} (hI:IM es ck f) (hw:∀ k,(f k).isSome->0≤k/\k < 64):(es.toList.map keyI).Nodup:=by
 have hst:=hI.1
 rw[stamped_iff] at hst
 rw[List.Nodup,List.pairwise_map]
 refine hst.2.2.imp_of_mem fun {a b} ha hb h e=>h ?_
 rw[(im_rd hI hw ha).2.2.2.2,(im_rd hI hw hb).2.2.2.2,e]
theorem im_size {es:Array MapEntry} {ck:Nat} {f:Int->Option Value} (hI:IM es ck f) (hw:∀ k,(f k).isSome->0≤k/\k < 64):es.size≤64:=by
 have h1:((es.toList.map keyI).map Int.toNat).Nodup:=by
  rw[List.Nodup,List.pairwise_map]
  refine(im_nodup hI hw).imp_of_mem fun {a b} ha hb h e=>h ?_
  obtain⟨x,hx,rfl⟩:=List.mem_map.1 ha
  obtain⟨y,hy,rfl⟩:=List.mem_map.1 hb
  have:=(im_rd hI hw hx).2.1
  have:=(im_rd hI hw hy).2.1
  omega
 have h2:=nodup_le 64 _ h1 (fun x hx=>by
  obtain⟨y,hy,rfl⟩:=List.mem_map.1 hx
  obtain⟨z,hz,rfl⟩:=List.mem_map.1 hy
  have:=(im_rd hI hw hz).2.1
  have:=(im_rd hI hw hz).2.2.1
  omega)
 simpa using h2
theorem im_owns {es:Array MapEntry} {ck:Nat} {f:Int->Option Value} {b:Nat} {w:cA} (hb:w.heap[b]?=M (.map es ck)) (hI:IM es ck f) (hw:∀ k,(f k).isSome->0≤k/\k < 64):w.ownsMap dA 3 R0 b es.size (.map ((es.toList.map (rg dA 3 R0)).foldr DataW.insert [])) :=
 ⟨es,ck,hb,⟨by have:=im_size hI hw;unfold maxLen;omega,hI.1,fun x hx=>⟨_,(im_rd hI hw hx).1⟩⟩,pA _,rfl⟩
theorem im_keys {es:Array MapEntry} {ck:Nat} {f:Int->Option Value} (hI:IM es ck f) (hw:∀ k,(f k).isSome->0≤k/\k < 64):(intKeys (DataW.map (H:=Unit) ((es.toList.map (rg dA 3 R0)).foldr DataW.insert []))).Perm (es.toList.map keyI):=by
 refine((sorted_perm _).map _).trans ?_
 rw[List.map_map]
 refine List.Perm.of_eq (List.map_congr_left fun x hx=>?_)
 have:=rg_of (im_rd hI hw hx).1
 simp[this,Go.intOf]
theorem im_mem {es:Array MapEntry} {ck:Nat} {f:Int->Option Value} (hI:IM es ck f) (hw:∀ k,(f k).isSome->0≤k/\k < 64) (k:Int):k∈es.toList.map keyI↔(f k).isSome:=by
 constructor
 ·intro h
  obtain⟨x,hx,rfl⟩:=List.mem_map.1 h
  rw[(im_rd hI hw hx).2.2.2.1];rfl
 ·intro h
  obtain⟨v,hv⟩:=Option.isSome_iff_exists.1 h
  obtain⟨x,hx,hk⟩:=hI.2.2 k v hv
  exact List.mem_map.2 ⟨x,hx,by simp[keyI,hk]⟩
end Go.Proofs.YtiebppkhaiofeaaGreat.K
namespace Go.Proofs.YtiebppkhaiofeaaGreat.K
open Go.RowKit Go.Proofs.YtiebppkhaiofeaaGreatW.PrintWords Go.Proofs.YtiebppkhaiofeaaGreat.S
attribute [local go_sem] World.cell?_alloc_some
open Go.ChangeMaps Go.MapKept
def TabL (t:Table) (w:cA) (e:Ending) (w':cA):Prop:=∃ (A:Option Addr) (n cp:Nat) (L:List Int),e=.returned (J A n cp)/\L.Nodup/\(∀ k,k∈L↔(t.act k).isSome)/\OwnE actE (J A n cp) (L.map (Table.actOf t)) w'/\(∀ x∈foot (J A n cp),w.heap.size≤x)/\Below w.heap.size w w'
theorem tabList_any {t:Table} {b:Nat} {F:Set_} {w:cA} (hT:TabAt t b F w) (hw:∀ k,(t.act k).isSome->0≤k/\k < 64):bB dA 68 #[bA (M ⟨b,0,U⟩)] w (TabL t w):=by
 obtain⟨ba,bo,ea,ca,eo,co,fa,fo,h1,h2,-,h3,-,-,-,-,-,-,-,h4,-⟩:=hT
 have hw':∀ k,(fa k).isSome->0≤k/\k < 64:=fun k hk=>hw k (by rw[h4] at hk;simpa using hk)
 have S1:=AS (sorted100_any ba ea.size _ R0 w (im_owns h2 h3 hw') (by have:=im_size h3 hw';have e:=(im_keys h3 hw').length_eq;simp[Maps.size,intKeys] at e ⊢;unfold maxLen;omega) (by have:=im_size h3 hw';have e:=(im_keys h3 hw').length_eq;simp[Maps.size,intKeys] at e ⊢;omega))
 have MM:=AS (show ∀ ss:List Int,ss.Perm (intKeys (DataW.map (H:=Unit) ((ea.toList.map (Go.WideElems.rg dA 3 R0)).foldr DataW.insert [])))->(ss.mergeSort fun x y=>decide (x≤y)).Nodup/\(∀ k,k∈(ss.mergeSort fun x y=>decide (x≤y))↔(t.act k).isSome)/\(ss.mergeSort fun x y=>decide (x≤y)).length≤64 from fun ss h=>by
  have p:=(List.mergeSort_perm ss fun x y=>decide (x≤y)).trans (h.trans (im_keys h3 hw'))
  refine⟨p.nodup_iff.2 (im_nodup h3 hw'),fun k=>by rw[p.mem_iff,im_mem h3 hw',h4];simp,?_⟩
  rw[p.length_eq];simpa using im_size h3 hw')
 have LK:=AS (show ∀ x,Below w.heap.size w x->∀ k,(Instr.lookup 43 (.map (M ba)) (V I k) false).run dA x=.ok (.agg #[V I (Table.actOf t k).block,V I (Table.actOf t k).node,V I (Table.actOf t k).seq]) x from fun x hx k=>by have:=h3.look (kA h2 hx) under43 under3 (zero55 _) k;rw[getD_act h4 k] at this;simp only[actV] at this;exact this)
 have KEEP:=AS (show ∀ x,Below w.heap.size w x->x.cell? ⟨b,0,U⟩=M (.map (M ba)) from fun x hx=>by have h11:=kA h1 hx;exact(cw h11 0))
 have e0_:=KEEP.out w (fA _ _)
 clear h1 h2 h3 h4 hw hw'
 go_enter Tryz.func68,Tryz.ntmps68
 go_wp2_with fail
 refine(keys101_any (M ba) w).mono ?_
 rintro e wk ⟨rfl,rfl⟩
 go_wp2_with fail
 refine S1.out.mono ?_
 rintro e w1 ⟨v,ss,rfl,hp,hrow,-,hb⟩
 have M_:=MM.out ss hp
 have B1:=AS ((eA (fA w.heap.size w) (O #[.map (M ba)] 43)).trans (hb.mono zB))
 have hO:OwnE intE v (ss.mergeSort fun x y=>decide (x≤y)) w1:=by
  show World.ownsRow _ _ _ _ _ _ _
  rw[flat_int,List.length_mergeSort]
  exact⟨hrow.1,hrow.2.imp id (fun⟨g,cap,cur,q1,q2,q3⟩=>⟨g,cap,cur,q1,Nat.zero_le _,q3⟩)⟩
 have hlen:=M_.2.2
 have FIN:=AS (show ∀ (A':Option Addr) (n' cp':Nat) (w':cA),OwnE actE (J A' n' cp') ((ss.mergeSort fun x y=>decide (x≤y)).map (Table.actOf t)) w'->(∀ x∈foot (J A' n' cp'),w1.heap.size≤x)->Below w1.heap.size w1 w'->TabL t w (.returned (J A' n' cp')) w' from fun A' n' cp' w' k1 k2 k3=>⟨A',n',cp',_,rfl,M_.1,M_.2.1,k1,fun x hx=>lB B1.out.size (k2 x hx),B1.out.trans (k3.mono B1.out.size)⟩)
 clear M_ hp hrow hb e0_ MM S1
 generalize (ss.mergeSort fun x y=>decide (x≤y))=xs at *
 obtain⟨A,cp,rfl,-⟩:=hO.row
 rcases hO.cases with ⟨e,hx⟩ | ⟨g,cap,cur,e,hg,hc1,hc2,-,-⟩
 ·subst hx
  simp at e
  obtain⟨rfl,rfl⟩:=e
  clear hO
  go_wp2
  refine wp_loop_rounds 1 ?_
  rw[rounds_succ]
  go_wp2
  go_ret
  exact FIN.out _ _ _ _ (OwnE.nil _) (by simp[foot_nil]) (fA _ _)
 ·simp at e
  obtain⟨rfl,rfl⟩:=e
  have OO:=AS hO
  clear hO hg
  go_wp2
  go_loopw [3,5,13] (fun v3 v5 v12 wr=>∃ (i:Nat) (A':Option Addr) (n' cp':Nat),v3=J A' n' cp'/\v12=V I i/\i≤xs.length/\Aside0 (OwnE actE (J A' n' cp') ((xs.take i).map (Table.actOf t)) wr/\Below w1.heap.size w1 wr/\(∀ x∈foot (J A' n' cp'),w1.heap.size≤x))) (fun _ _ v12 _=>xs.length+1 - (intOf v12).toNat)
  case atStart=>exact⟨0,U,0,0,rfl,rfl,Nat.zero_le _,⟨OwnE.nil _,fA _ _,by simp[foot_nil]⟩⟩
  case round =>
   obtain⟨i,A0,n0,c0,rfl,rfl,hi,R⟩:=hrel
   by_cases c1:i < xs.length
   ·have c2:wr.cell? ⟨g,i,U⟩=M (V I (xs.getD i 0)):=int_cells (OO.out.ks (pB (fun _=>False) R.out.2.1) (fun _ _=>id)) c1
    have TK:=AS (show xs.take (i+1)=xs.take i ++ [xs.getD i 0] by rw[List.take_add_one];simp[List.getD,c1])
    generalize xs.getD i 0=x at *
    have BW:=AS (B1.out.trans (R.out.2.1.mono B1.out.size))
    have lk:=LK.out wr BW.out x
    have e0_:=KEEP.out wr BW.out
    have X:=AS (nA wr (O (actC (Table.actOf t x)).toArray 55))
    have RW:=AS (rowE_one (E:=actE) (x:=Table.actOf t x) X.out)
    have O_:=AS (R.out.1.keep (Keeps.below [] (eA (fA _ wr) (O (actC (Table.actOf t x)).toArray 55))) zB)
    have B:=AS (eA R.out.2.1 (O (actC (Table.actOf t x)).toArray 55))
    have FT:=AS R.out.2.2
    have HL:=AS (show(xs.take i).length≤64 by rw[List.length_take];omega)
    clear R
    go_wp2_with (first | (at_builtin;refine list_appE (E:=actE) (xs:=(xs.take i).map (Table.actOf t)) (ys:=[Table.actOf t x]) xB _ _ rfl rfl rfl rfl (by exact O_.out) (by exact RW.out) (by have:=HL.out;show _ * 24≤_;simp only[List.length_map,List.length_singleton];omega) ?_;intro v1 w3 hO hK hf;obtain⟨A1,n1,k1,rfl⟩:∃ A n c,v1=J A n c:=(by obtain⟨A,c,h,_⟩:=OwnE.row hO;exact⟨_,_,_,h⟩);have O1:=AS hO;have K1:=AS hK;have F1:=AS hf;clear hO hK hf) | go_in)
    go_roundw
    case rel =>
     refine⟨i+1,_,_,_,rfl,by go_num,vB,⟨?_,?_,?_⟩⟩
     ·rw[TK.out,List.map_append]
      exact O1.out
     ·exact B.out.trans (K1.out.toBelow FT.out (by have:=B.out.size;simpa using this))
     ·intro y hy
      rcases F1.out with e | e
      ·rw[e] at hy;exact FT.out y hy
      ·rw[e] at hy;have h2:=B.out.size;simp at hy h2;omega
    case measure=>simp[intOf];omega
   ·obtain rfl:i=xs.length:=vB
    have RR:=AS R.out
    clear R
    go_wp2
    go_ret
    exact FIN.out _ _ _ _ (by have:=RR.out.1;rwa [List.take_length] at this) RR.out.2.2 RR.out.2.1
def cv (x:cA) (g i:Nat):Value:=(x.cell? ⟨g,i,U⟩).getD (aA false)
theorem cv_eq {x:cA} {g:Nat} {T:TypeId} {arr:Array Value} (h:x.heap[g]?=M (O arr T (0,0))) {i:Nat} (hi:i < arr.size):x.cell? ⟨g,i,U⟩=M (cv x g i):=by
 unfold cv
 rw[oB h i,Array.getElem?_eq_getElem hi];rfl
def CHG (g:Nat) (T:TypeId) (n:Nat) (A F:cA):Prop:=KS (fun y=>y=g) A F/\∃ arr,F.heap[g]?=M (O arr T (0,0))/\arr.size=n
theorem CHG.refl {g:Nat} {T:TypeId} {n:Nat} {A:cA} {arr:Array Value} (h:A.heap[g]?=M (O arr T (0,0))) (hn:arr.size=n):CHG g T n A A:=⟨qB _ _,arr,h,hn⟩
theorem CHG.drew {g:Nat} {T:TypeId} {n:Nat} {A F:cA} (h:CHG g T n A F):CHG g T n A F.drew:=⟨h.1.drew,h.2⟩
theorem CHG.alloc {g:Nat} {T:TypeId} {n:Nat} {A F:cA} (h:CHG g T n A F) (o:Obj):CHG g T n A (F.alloc o):=⟨h.1.alloc o,h.2.imp fun arr k=>⟨lA k.1 o,k.2⟩⟩
theorem CHG.set {g:Nat} {T:TypeId} {n:Nat} {A F:cA} (h:CHG g T n A F) (i:Nat) (u:Value):CHG g T n A (F.setCell ⟨g,i,U⟩ u):=by
 obtain⟨h1,arr,h2,h3⟩:=h
 exact⟨h1.set1 i u,_,mA h2 i u,by simpa using h3⟩
theorem CHG.lays {g:Nat} {T:TypeId} {n:Nat} {P:Set_->cA->Prop} {A X F:cA} (hl:Lays P X F) (h:CHG g T n A X):CHG g T n A F:=⟨h.1.andBelow hl.2,h.2.imp fun arr k=>⟨kA k.1 hl.2,k.2⟩⟩
theorem blk_as {F:cA} {g:Nat} {T:TypeId} {arr arr':Array Value} (h:F.heap[g]?=M (O arr T (0,0))) (e:arr=arr'):F.heap[g]?=M (O arr' T (0,0)):=e ▸ h
theorem Lays.ks {G:Set_} {P:Set_->cA->Prop} {A X F:cA} (hl:Lays P X F) (h:KS G A X):KS G A F:=h.andBelow hl.2
theorem cacCopy_lays {c:Cfg} {s:Cache} {b:Nat} {F:Set_} {w X:cA} (h:CacAt c s b F w) (hb:Below w.heap.size w X):bB dA 78 #[bA (M ⟨b,0,U⟩)] X fun e w'=>∃ b,e=.returned (bA (M ⟨b,0,U⟩))/\Lays (CacAt c s b) X w' :=
 (cacCopy0_any (h.keep (pB (fun _=>False) hb) (fun x _ hF=>⟨hF,id⟩))).mono fun e w' ⟨b,he,h,hb⟩=>⟨b,he,h.keep (qB (fun _=>False) _) (fun x hx hF=>⟨⟨hF,hx⟩,id⟩),hb⟩
theorem tabCopy_lays {s:Table} {b:Nat} {F:Set_} {w X:cA} (h:TabAt s b F w) (hb:Below w.heap.size w X):bB dA 79 #[bA (M ⟨b,0,U⟩)] X fun e w'=>∃ b,e=.returned (bA (M ⟨b,0,U⟩))/\Lays (TabAt s b) X w' :=
 (tabCopy_any (h.keep (pB (fun _=>False) hb) (fun x _ hF=>⟨hF,id⟩))).mono fun e w' ⟨b,he,h,hb⟩=>⟨b,he,h.keep (qB (fun _=>False) _) (fun x hx hF=>⟨⟨hF,hx⟩,id⟩),hb⟩
theorem procCopy_lays {c:Cfg} {p:S.Proc} {b:Nat} {w X:cA} (h:ProcAt c p b w) (hb:Below w.heap.size w X):bB dA 80 #[bA (M ⟨b,0,U⟩)] X fun e w'=>∃ b,e=.returned (bA (M ⟨b,0,U⟩))/\Lays (fun F w=>ProcAt c p b w/\F b) X w' :=
 (procCopy_any (show ProcAt c p b X from kA h hb)).mono fun e w' ⟨b,he,h1,h2,h3⟩=>⟨b,he,⟨h2,h1,eB h2⟩,h3⟩
theorem cloneB_lays {g:Int->Bool} {b:Nat} {w X:cA} (h:MapB g b w) (hb:Below w.heap.size w X):bB dA 81 #[.map (M b)] X fun e w'=>∃ b,e=.returned (.map (M b))/\Lays (fun F w=>MapB g b w/\F b) X w':=by
 obtain⟨es,ck,f,h1,h2,h3⟩:=h
 refine(cloneMB_any (kA h1 hb)).mono ?_
 rintro e w' ⟨he,rfl⟩
 exact⟨_,he,⟨⟨es,ck,f,nA X _,h2,h3⟩,pA _,zB⟩,eA (fA _ _) _⟩
theorem cloneI_lays {g:Int->Int} {b:Nat} {w X:cA} (h:MapI g b w) (hb:Below w.heap.size w X):bB dA 82 #[.map (M b)] X fun e w'=>∃ b,e=.returned (.map (M b))/\Lays (fun F w=>MapI g b w/\F b) X w':=by
 obtain⟨es,ck,f,h1,h2,h3⟩:=h
 refine(cloneMI_any (kA h1 hb)).mono ?_
 rintro e w' ⟨he,rfl⟩
 exact⟨_,he,⟨⟨es,ck,f,nA X _,h2,h3⟩,pA _,zB⟩,eA (fA _ _) _⟩
theorem nodeCopy_any {c:Cfg} {n:S.Node} {b:Nat} {F:Set_} {w:cA} (hN:NodeAt c n b F w):bB dA 53 #[bA (M ⟨b,0,U⟩)] w fun e w'=>∃ b',e=.returned (bA (M ⟨b',0,U⟩))/\NodeAt c n b' (nw w) w'/\Below w.heap.size w w':=by
 obtain⟨p,K,rfl,hK,-⟩:=hN
 have HLT:=AS hK.lt
 have CA:=AS (fun X hb=>cacCopy_lays (X:=X) hK.2.2.1.at_ hb)
 have TA:=AS (fun X hb=>tabCopy_lays (X:=X) hK.2.2.2.1 hb)
 have PA:=AS (fun X hb=>procCopy_lays (X:=X) hK.2.2.2.2.1 hb)
 have MB:=AS (fun X hb=>cloneB_lays (X:=X) hK.2.2.2.2.2.2.1 hb)
 have MI:=AS (fun X hb=>cloneI_lays (X:=X) hK.2.2.2.2.2.2.2.2.1 hb)
 have HB:=AS (show w.heap[p.b]?=M (O #[V I c.nodes,V I c.blocks,V I c.tokens,V I c.sets,V I c.ways,V I c.cap,V I c.wait,V I c.tries,V I c.policy,V I n.id,bA (M ⟨p.bc,0,U⟩),bA (M ⟨p.bt,0,U⟩),bA (M ⟨p.bp,0,U⟩),.map (M p.ba),.map (M p.bo)] 133 (0,0)) from hK.1)
 obtain⟨e0_,e1_,e2_,e3_,e4_,e5_,e6_,e7_,e8_,e9_,e10_,e11_,e12_,e13_,e14_⟩:=(show w.cell? ⟨p.b,0,U⟩=M (V I c.nodes)/\w.cell? ⟨p.b,1,U⟩=M (V I c.blocks)/\w.cell? ⟨p.b,2,U⟩=M (V I c.tokens)/\w.cell? ⟨p.b,3,U⟩=M (V I c.sets)/\w.cell? ⟨p.b,4,U⟩=M (V I c.ways)/\w.cell? ⟨p.b,5,U⟩=M (V I c.cap)/\w.cell? ⟨p.b,6,U⟩=M (V I c.wait)/\w.cell? ⟨p.b,7,U⟩=M (V I c.tries)/\w.cell? ⟨p.b,8,U⟩=M (V I c.policy)/\w.cell? ⟨p.b,9,U⟩=M (V I n.id)/\w.cell? ⟨p.b,10,U⟩=M (bA (M ⟨p.bc,0,U⟩))/\w.cell? ⟨p.b,11,U⟩=M (bA (M ⟨p.bt,0,U⟩))/\w.cell? ⟨p.b,12,U⟩=M (bA (M ⟨p.bp,0,U⟩))/\w.cell? ⟨p.b,13,U⟩=M (.map (M p.ba))/\w.cell? ⟨p.b,14,U⟩=M (.map (M p.bo)) from⟨cw HB.out 0,cw HB.out 1,cw HB.out 2,cw HB.out 3,cw HB.out 4,cw HB.out 5,cw HB.out 6,cw HB.out 7,cw HB.out 8,cw HB.out 9,cw HB.out 10,cw HB.out 11,cw HB.out 12,cw HB.out 13,cw HB.out 14⟩)
 clear hK
 go_enter Tryz.func53,Tryz.ntmps53
 go_upto_region 2 with fail
 have BX:=AS (nA w (O #[V I c.nodes,V I c.blocks,V I c.tokens,V I c.sets,V I c.ways,V I c.cap,V I c.wait,V I c.tries,V I c.policy,V I n.id,bA (M ⟨p.bc,0,U⟩),bA (M ⟨p.bt,0,U⟩),bA (M ⟨p.bp,0,U⟩),.map (M p.ba),.map (M p.bo)] 133))
 have BE:=AS (eA (fA w.heap.size w) (O #[V I c.nodes,V I c.blocks,V I c.tokens,V I c.sets,V I c.ways,V I c.cap,V I c.wait,V I c.tries,V I c.policy,V I n.id,bA (M ⟨p.bc,0,U⟩),bA (M ⟨p.bt,0,U⟩),bA (M ⟨p.bp,0,U⟩),.map (M p.ba),.map (M p.bo)] 133))
 have SZ:=AS (gB w (O #[V I c.nodes,V I c.blocks,V I c.tokens,V I c.sets,V I c.ways,V I c.cap,V I c.wait,V I c.tries,V I c.policy,V I n.id,bA (M ⟨p.bc,0,U⟩),bA (M ⟨p.bt,0,U⟩),bA (M ⟨p.bp,0,U⟩),.map (M p.ba),.map (M p.bo)] 133))
 generalize w.alloc (O #[V I c.nodes,V I c.blocks,V I c.tokens,V I c.sets,V I c.ways,V I c.cap,V I c.wait,V I c.tries,V I c.policy,V I n.id,bA (M ⟨p.bc,0,U⟩),bA (M ⟨p.bt,0,U⟩),bA (M ⟨p.bp,0,U⟩),.map (M p.ba),.map (M p.bo)] 133)=W at BX BE SZ ⊢
 have PB:=AS (kA HB.out BE.out)
 have BW:=AS (show ∀ x,CHG w.heap.size 133 15 W x->Below w.heap.size w x from fun x hx=>BE.out.trans (hx.1.toBelow (B:=w.heap.size) (fun y hy=>by have hy':y=w.heap.size:=hy;omega) (by have:=SZ.out;omega)))
 have CH0:=AS (show CHG w.heap.size 133 15 W W from CHG.refl BX.out rfl)
 clear e0_ e1_ e2_ e3_ e4_ e5_ e6_ e7_ e8_ e9_ e10_ e11_ e12_ e13_ e14_
 have KEEP:=AS (show ∀ x,CHG w.heap.size 133 15 W x->(x.cell? ⟨p.b,10,U⟩=M (bA (M ⟨p.bc,0,U⟩))/\x.cell? ⟨p.b,11,U⟩=M (bA (M ⟨p.bt,0,U⟩))/\x.cell? ⟨p.b,12,U⟩=M (bA (M ⟨p.bp,0,U⟩))/\x.cell? ⟨w.heap.size,10,U⟩=M (cv x w.heap.size 10)/\x.cell? ⟨w.heap.size,11,U⟩=M (cv x w.heap.size 11)/\x.cell? ⟨w.heap.size,12,U⟩=M (cv x w.heap.size 12)/\x.frozen? ⟨w.heap.size,10,U⟩=false/\x.frozen? ⟨w.heap.size,11,U⟩=false/\x.frozen? ⟨w.heap.size,12,U⟩=false) from fun x hx=>by
  obtain⟨hk,arr,ha,hn⟩:=hx
  have hp:=hk.at_ PB.out (fun e=>Nat.lt_irrefl _ (e ▸ HLT.out))
  exact⟨cw hp 10,cw hp 11,cw hp 12,cv_eq ha vB,cv_eq ha vB,cv_eq ha vB,jA ha 10,jA ha 11,jA ha 12⟩)
 have KS0:=KEEP.out W CH0.out
 obtain⟨e0_,e1_,e2_,e3_,e4_,e5_,e6_,e7_,e8_⟩:=KS0
 go_cut [] (fun wx=>∃ bc1 bt1 bp1 l1 u1 l2 u2,wx.heap[w.heap.size]?=M (O #[V I c.nodes,V I c.blocks,V I c.tokens,V I c.sets,V I c.ways,V I c.cap,V I c.wait,V I c.tries,V I c.policy,V I n.id,bA (M ⟨bc1,0,U⟩),bA (M ⟨bt1,0,U⟩),bA (M ⟨bp1,0,U⟩),.map (M p.ba),.map (M p.bo)] 133 (0,0))/\CacAt c n.lines bc1 (iv l1 u1) wx/\TabAt n.know bt1 (iv l2 u2) wx/\ProcAt c n.cpu bp1 wx/\(w.heap.size < l1/\w.heap.size < l2/\w.heap.size < bp1/\u1≤wx.heap.size/\u2≤wx.heap.size/\bp1 < wx.heap.size/\(u1≤l2∨u2≤l1)/\(bp1 < l1∨u1≤bp1)/\(bp1 < l2∨u2≤bp1))/\Below w.heap.size w wx)
 case first =>
  go_region_held3 (fun x=>x.cell? ⟨p.b,10,U⟩=M (bA (M ⟨p.bc,0,U⟩))/\x.cell? ⟨p.b,11,U⟩=M (bA (M ⟨p.bt,0,U⟩))/\x.cell? ⟨p.b,12,U⟩=M (bA (M ⟨p.bp,0,U⟩))/\x.cell? ⟨w.heap.size,10,U⟩=M (cv x w.heap.size 10)/\x.cell? ⟨w.heap.size,11,U⟩=M (cv x w.heap.size 11)/\x.cell? ⟨w.heap.size,12,U⟩=M (cv x w.heap.size 12)/\x.frozen? ⟨w.heap.size,10,U⟩=false/\x.frozen? ⟨w.heap.size,11,U⟩=false/\x.frozen? ⟨w.heap.size,12,U⟩=false) ((refine KEEP.out _ ?_;(repeat (with_reducible first | exact CH0.out | refine CHG.set ?_ _ _ | refine CHG.alloc ?_ _ | refine CHG.drew ?_ | refine CHG.lays H5.out ?_ | refine CHG.lays H4.out ?_ | refine CHG.lays H3.out ?_ | refine CHG.lays H2.out ?_ | refine CHG.lays H1.out ?_)))) ((first | (go_at_call 78;refine(CA.out _ ?_).mono ?_;(focus (refine BW.out _ ?_;(repeat (with_reducible first | exact CH0.out | refine CHG.set ?_ _ _ | refine CHG.alloc ?_ _ | refine CHG.drew ?_ | refine CHG.lays H5.out ?_ | refine CHG.lays H4.out ?_ | refine CHG.lays H3.out ?_ | refine CHG.lays H2.out ?_ | refine CHG.lays H1.out ?_))));rintro e w1 ⟨bc1,rfl,hC⟩;have H1:=AS hC;clear hC) | (go_at_call 79;refine(TA.out _ ?_).mono ?_;(focus (refine BW.out _ ?_;(repeat (with_reducible first | exact CH0.out | refine CHG.set ?_ _ _ | refine CHG.alloc ?_ _ | refine CHG.drew ?_ | refine CHG.lays H5.out ?_ | refine CHG.lays H4.out ?_ | refine CHG.lays H3.out ?_ | refine CHG.lays H2.out ?_ | refine CHG.lays H1.out ?_))));rintro e w2 ⟨bt1,rfl,hC⟩;have H2:=AS hC;clear hC) | (go_at_call 80;refine(PA.out _ ?_).mono ?_;(focus (refine BW.out _ ?_;(repeat (with_reducible first | exact CH0.out | refine CHG.set ?_ _ _ | refine CHG.alloc ?_ _ | refine CHG.drew ?_ | refine CHG.lays H5.out ?_ | refine CHG.lays H4.out ?_ | refine CHG.lays H3.out ?_ | refine CHG.lays H2.out ?_ | refine CHG.lays H1.out ?_))));rintro e w3 ⟨bp1,rfl,hC⟩;have H3:=AS hC;clear hC)))
  all_goals
   go_wp2_with fail
   go_meet
   have s0:=SZ.out
   have s1:=H1.out.size
   have s2:=H2.out.size
   have s3:=H3.out.size
   have s4:=H3.out.1.2
   refine⟨bc1,bt1,bp1,_,_,_,_,?_,H1.out.1.keep (G:=fun y=>y=w.heap.size) ?_ (fun x _ hF=>⟨hF,fun e=>?_⟩),H2.out.1.keep (G:=fun y=>y=w.heap.size) ?_ (fun x _ hF=>⟨hF,fun e=>?_⟩),KS.at_ (F:=fun y=>y=w.heap.size) ?_ H3.out.1.1 (fun e=>?_),?_,BW.out _ ?_⟩
   ·apply blk_as
    ·(repeat (with_reducible first | exact BX.out | apply mA | apply lA | apply fB | apply Lays.blk H5.out | apply Lays.blk H4.out | apply Lays.blk H3.out | apply Lays.blk H2.out | apply Lays.blk H1.out))
    ·simp
   ·(repeat (with_reducible first | exact qB _ _ | refine tB ?_ _ _ | apply KS.alloc | apply sB | refine Lays.ks H5.out ?_ | refine Lays.ks H4.out ?_ | refine Lays.ks H3.out ?_ | refine Lays.ks H2.out ?_ | refine Lays.ks H1.out ?_))
   ·have h1:=hF.1
    have e':x=w.heap.size:=e
    simp only[iv,gB,iB,sz_set] at s0 s1 s2 s3 s4 h1 ⊢;omega
   ·(repeat (with_reducible first | exact qB _ _ | refine tB ?_ _ _ | apply KS.alloc | apply sB | refine Lays.ks H5.out ?_ | refine Lays.ks H4.out ?_ | refine Lays.ks H3.out ?_ | refine Lays.ks H2.out ?_ | refine Lays.ks H1.out ?_))
   ·have h1:=hF.1
    have e':x=w.heap.size:=e
    simp only[iv,gB,iB,sz_set] at s0 s1 s2 s3 s4 h1 ⊢;omega
   ·(repeat (with_reducible first | exact qB _ _ | refine tB ?_ _ _ | apply KS.alloc | apply sB | refine Lays.ks H5.out ?_ | refine Lays.ks H4.out ?_ | refine Lays.ks H3.out ?_ | refine Lays.ks H2.out ?_ | refine Lays.ks H1.out ?_))
   ·have e':bp1=w.heap.size:=e
    simp only[iv,gB,iB,sz_set] at s0 s1 s2 s3 s4 ⊢;omega
   ·simp only[iv,gB,iB,sz_set] at s0 s1 s2 s3 s4 ⊢;omega
   ·(repeat (with_reducible first | exact CH0.out | refine CHG.set ?_ _ _ | refine CHG.alloc ?_ _ | refine CHG.drew ?_ | refine CHG.lays H5.out ?_ | refine CHG.lays H4.out ?_ | refine CHG.lays H3.out ?_ | refine CHG.lays H2.out ?_ | refine CHG.lays H1.out ?_))
 case rest =>
  obtain⟨bc1,bt1,bp1,l1,u1,l2,u2,hb0,hC0,hT0,hP0,hd0,hbe0⟩:=hcut
  have BX:=AS hb0
  have HC:=AS hC0
  have HT:=AS hT0
  have HP:=AS hP0
  have HD:=AS hd0
  have BE2:=AS hbe0
  have PB:=AS (kA HB.out hbe0)
  have BW:=AS (show ∀ x,CHG w.heap.size 133 15 wc x->Below w.heap.size w x from fun x hx=>BE2.out.trans (hx.1.toBelow (B:=w.heap.size) (fun y hy=>by have hy':y=w.heap.size:=hy;omega) BE2.out.size))
  have CH0:=AS (show CHG w.heap.size 133 15 wc wc from CHG.refl BX.out rfl)
  clear hb0 hC0 hT0 hP0 hd0 hbe0
  have KEEP2:=AS (show ∀ x,CHG w.heap.size 133 15 wc x->(x.cell? ⟨p.b,13,U⟩=M (.map (M p.ba))/\x.cell? ⟨p.b,14,U⟩=M (.map (M p.bo))/\x.cell? ⟨w.heap.size,13,U⟩=M (cv x w.heap.size 13)/\x.cell? ⟨w.heap.size,14,U⟩=M (cv x w.heap.size 14)/\x.frozen? ⟨w.heap.size,13,U⟩=false/\x.frozen? ⟨w.heap.size,14,U⟩=false) from fun x hx=>by
   obtain⟨hk,arr,ha,hn⟩:=hx
   have hp:=hk.at_ PB.out (fun e=>Nat.lt_irrefl _ (e ▸ HLT.out))
   exact⟨cw hp 13,cw hp 14,cv_eq ha vB,cv_eq ha vB,jA ha 13,jA ha 14⟩)
  have KS2:=KEEP2.out wc CH0.out
  clear e0_ e1_ e2_ e3_ e4_ e5_ e6_ e7_ e8_
  obtain⟨e0_,e1_,e2_,e3_,e4_,e5_⟩:=KS2
  go_upto_region 3 with fail
  go_region_held3 (fun x=>x.cell? ⟨p.b,13,U⟩=M (.map (M p.ba))/\x.cell? ⟨p.b,14,U⟩=M (.map (M p.bo))/\x.cell? ⟨w.heap.size,13,U⟩=M (cv x w.heap.size 13)/\x.cell? ⟨w.heap.size,14,U⟩=M (cv x w.heap.size 14)/\x.frozen? ⟨w.heap.size,13,U⟩=false/\x.frozen? ⟨w.heap.size,14,U⟩=false) ((refine KEEP2.out _ ?_;(repeat (with_reducible first | exact CH0.out | refine CHG.set ?_ _ _ | refine CHG.alloc ?_ _ | refine CHG.drew ?_ | refine CHG.lays H5.out ?_ | refine CHG.lays H4.out ?_ | refine CHG.lays H3.out ?_ | refine CHG.lays H2.out ?_ | refine CHG.lays H1.out ?_)))) ((first | (go_at_call 81;refine(MB.out _ ?_).mono ?_;(focus (refine BW.out _ ?_;(repeat (with_reducible first | exact CH0.out | refine CHG.set ?_ _ _ | refine CHG.alloc ?_ _ | refine CHG.drew ?_ | refine CHG.lays H5.out ?_ | refine CHG.lays H4.out ?_ | refine CHG.lays H3.out ?_ | refine CHG.lays H2.out ?_ | refine CHG.lays H1.out ?_))));rintro e w4 ⟨ba1,rfl,hC⟩;have H4:=AS hC;clear hC) | (go_at_call 82;refine(MI.out _ ?_).mono ?_;(focus (refine BW.out _ ?_;(repeat (with_reducible first | exact CH0.out | refine CHG.set ?_ _ _ | refine CHG.alloc ?_ _ | refine CHG.drew ?_ | refine CHG.lays H5.out ?_ | refine CHG.lays H4.out ?_ | refine CHG.lays H3.out ?_ | refine CHG.lays H2.out ?_ | refine CHG.lays H1.out ?_))));rintro e w5 ⟨bo1,rfl,hC⟩;have H5:=AS hC;clear hC)))
  all_goals
   go_wp2
   go_ret
   have s1:=H4.out.size
   have s2:=H5.out.size
   have s3:=H4.out.1.2
   have s4:=H5.out.1.2
   have hd:=HD.out
   refine⟨_,rfl,node_iv (bc:=bc1) (bt:=bt1) (bp:=bp1) (l1:=l1) (u1:=u1) (l2:=l2) (u2:=u2) (B:=w.heap.size) ?_ (HC.out.keep (G:=fun y=>y=w.heap.size) ?_ (fun x _ hF=>⟨hF,fun e=>?_⟩)) (HT.out.keep (G:=fun y=>y=w.heap.size) ?_ (fun x _ hF=>⟨hF,fun e=>?_⟩)) (KS.at_ (F:=fun y=>y=w.heap.size) ?_ HP.out (fun e=>?_)) (H4.out.1.1.keep (G:=fun y=>y=w.heap.size) ?_ (fun e=>?_)) (H5.out.1.1.keep (G:=fun y=>y=w.heap.size) ?_ (fun e=>?_)) ?_,BW.out _ ?_⟩
   ·apply blk_as
    ·(repeat (with_reducible first | exact BX.out | apply mA | apply lA | apply fB | apply Lays.blk H5.out | apply Lays.blk H4.out | apply Lays.blk H3.out | apply Lays.blk H2.out | apply Lays.blk H1.out))
    ·simp
   ·(repeat (with_reducible first | exact qB _ _ | refine tB ?_ _ _ | apply KS.alloc | apply sB | refine Lays.ks H5.out ?_ | refine Lays.ks H4.out ?_ | refine Lays.ks H3.out ?_ | refine Lays.ks H2.out ?_ | refine Lays.ks H1.out ?_))
   ·have h1:=hF.1
    have e':x=w.heap.size:=e
    omega
   ·(repeat (with_reducible first | exact qB _ _ | refine tB ?_ _ _ | apply KS.alloc | apply sB | refine Lays.ks H5.out ?_ | refine Lays.ks H4.out ?_ | refine Lays.ks H3.out ?_ | refine Lays.ks H2.out ?_ | refine Lays.ks H1.out ?_))
   ·have h1:=hF.1
    have e':x=w.heap.size:=e
    omega
   ·(repeat (with_reducible first | exact qB _ _ | refine tB ?_ _ _ | apply KS.alloc | apply sB | refine Lays.ks H5.out ?_ | refine Lays.ks H4.out ?_ | refine Lays.ks H3.out ?_ | refine Lays.ks H2.out ?_ | refine Lays.ks H1.out ?_))
   ·have e':bp1=w.heap.size:=e
    omega
   ·(repeat (with_reducible first | exact qB _ _ | refine tB ?_ _ _ | apply KS.alloc | apply sB | refine Lays.ks H5.out ?_ | refine Lays.ks H4.out ?_ | refine Lays.ks H3.out ?_ | refine Lays.ks H2.out ?_ | refine Lays.ks H1.out ?_))
   ·have e':ba1=w.heap.size:=e
    have hs:=BE2.out.size
    simp only[iv,gB,iB,sz_set] at s1 s2 s3 s4 ⊢;omega
   ·(repeat (with_reducible first | exact qB _ _ | refine tB ?_ _ _ | apply KS.alloc | apply sB | refine Lays.ks H5.out ?_ | refine Lays.ks H4.out ?_ | refine Lays.ks H3.out ?_ | refine Lays.ks H2.out ?_ | refine Lays.ks H1.out ?_))
   ·have e':bo1=w.heap.size:=e
    have hs:=BE2.out.size
    simp only[iv,gB,iB,sz_set] at s1 s2 s3 s4 ⊢;omega
   ·simp only[iv,gB,iB,sz_set] at s1 s2 s3 s4 ⊢;omega
   ·(repeat (with_reducible first | exact CH0.out | refine CHG.set ?_ _ _ | refine CHG.alloc ?_ _ | refine CHG.drew ?_ | refine CHG.lays H5.out ?_ | refine CHG.lays H4.out ?_ | refine CHG.lays H3.out ?_ | refine CHG.lays H2.out ?_ | refine CHG.lays H1.out ?_))
end Go.Proofs.YtiebppkhaiofeaaGreat.K
