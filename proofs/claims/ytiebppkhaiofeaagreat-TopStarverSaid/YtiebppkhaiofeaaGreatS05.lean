/- Part of the proof of TopStarver: what functions of the program do. -/
import Derived.Laws.CopyRow
import Derived.Laws.Externs
import Derived.Test.YtiebppkhaiofeaaGreatS04
set_option maxHeartbeats 4000000
set_option maxRecDepth 100000
set_option linter.unusedVariables false
set_option linter.unusedSimpArgs false
namespace Go.Proofs.YtiebppkhaiofeaaGreat.K
open Go.RowKit Go.Proofs.YtiebppkhaiofeaaGreatW.PrintWords Go.Proofs.YtiebppkhaiofeaaGreat.S
open Go.MapKept
section
variable {α:Type} {E:El α}
theorem flat_rep (n:Nat):flat E (List.replicate n E.d)=(madeCells E.z.cells (n * E.k)).toList:=by
 have hz:=E.hz
 have hk:E.z.cells.size=E.k:=by have:=congrArg List.length hz;rw[E.len] at this;simpa using this
 have hp:=E.pos
 refine List.ext_getElem? fun j=>?_
 by_cases hj:j < n * E.k
 ·have hq:j / E.k < n:=Nat.div_lt_of_lt_mul (by rw[Nat.mul_comm];exact hj)
  have hr:j % E.k < E.k:=Nat.mod_lt _ hp
  have ej:j / E.k * E.k+j % E.k=j:=by rw[Nat.mul_comm];exact Nat.div_add_mod j E.k
  have e2:=flat_get E (List.replicate n E.d) (j / E.k) (j % E.k) (by simpa using hq) hr
  rw[ej] at e2
  rw[e2,show(List.replicate n E.d).getD (j / E.k) E.d=E.d by simp[List.getD,hq]]
  rw[<- hz]
  have h3:j % E.k < E.z.cells.size:=by rw[hk];exact hr
  simp[madeCells,hj,hk,h3]
  rw[getElem!_pos E.z.cells _ h3]
  exact Array.getElem?_eq_getElem h3
 ·rw[List.getElem?_eq_none (by rw[flat_len];simp;omega),List.getElem?_eq_none (by simp[madeCells];omega)]
theorem run_makeE (n:Nat) (h:n * E.bys≤140737488355328) (W:Go.World):(Instr.makeSlice E.S (.int .i64 n) (.int .i64 n)).run Tryz.prog W=.ok (.slice (some ⟨W.heap.size,0,none⟩) n n) (W.alloc (.cells (flat E (List.replicate n E.d)).toArray E.T)):=by
 obtain⟨i0,hi,hz0,hz1,hz2⟩:=info_parts E.info
 have hb:=E.hb
 have hn:n≤140737488355328:=Nat.le_trans (Nat.le_mul_of_pos_right _ (by omega)) h
 have hm:((n * E.bys:Nat):Int)≤140737488355328:=by omega
 have:=run_make (P:=Tryz.prog) W E.S E.T i0 E.z E.hS hi hz0 .i64 .i64 n n (by omega) (Int.le_refl _) (by rw[hz2,Int.mul_comm];rw[Int.natCast_mul] at hm;omega) (by omega)
 rw[this,flat_rep,hz1]
 simp
theorem ownE_made (n:Nat) (h:n * E.bys≤140737488355328) (W:Go.World):OwnE E (.slice (some ⟨W.heap.size,0,none⟩) n n) (List.replicate n E.d) (W.alloc (.cells (flat E (List.replicate n E.d)).toArray E.T)):=by
 have hb:=E.hb
 have hn:n≤140737488355328:=Nat.le_trans (Nat.le_mul_of_pos_right _ (by omega)) h
 have:=OwnE.mk (E:=E) (xs:=List.replicate n E.d) (W:=W.alloc (.cells (flat E (List.replicate n E.d)).toArray E.T)) (g:=W.heap.size) (cap:=n) (cur:=(flat E (List.replicate n E.d)).toArray) (heap_alloc W _).1 (by simp) (by omega) (by simp[flat_len]) (by rw[List.take_of_length_le (by simp[flat_len])])
 rwa [List.length_replicate] at this
theorem run_copyE {g n:Nat} {cur:Array Value} {A:Option Addr} {ys:List α} {c m:Nat} {W:Go.World} (ty:TypeId) (hg:W.heap[g]?=some (.cells cur E.T (0,0))) (hc:cur.size=n * E.k) (hR:RowE E W A ys) (hn:ys.length=n) (hm:m=n) (hA:A=none->ys=[]) :
  (Builtin.copy_ #[E.S,E.S] ty #[.slice (some ⟨g,0,none⟩) n n,.slice A m c]).run Tryz.prog W=.ok (.int .i64 n) (W.setRow g (flat E ys).toArray):=by
 subst hm
 obtain⟨i0,hi,hz0,hz1,hz2⟩:=info_parts E.info
 have hst:=run_storeCells_at Tryz.prog g 0 E.T (flat E ys) 0 cur W hg (by rw[flat_len,hn];omega) (flat_one E ys)
 simp only[Nat.zero_add,List.take_zero,List.nil_append] at hst
 rw[List.drop_of_length_le (by rw[flat_len,hn];simp;omega),List.append_nil] at hst
 cases A with
 | none =>
  obtain rfl:=hA rfl
  simp at hn
  subst hn
  have e0:cur=#[]:=by apply Array.eq_empty_of_size_eq_zero;omega
  subst e0
  have:W.setRow g (flat E ([]:List α)).toArray=W:=setRow_self W g #[] E.T (0,0) hg
  rw[this]
  simp[Builtin.copy_,run_underlying E.hS,Builtin.lenOf,Builtin.firstCells,sizeOf,typeInfo,hi,storeCells,goInt]
 | some ad =>
  have hl:=run_loadCells_list (P:=Tryz.prog) W ad (flat E ys) hR.news
  rw[flat_len,hn] at hl
  simp[Builtin.copy_,run_underlying E.hS,Builtin.lenOf,Builtin.firstCells,sizeOf,typeInfo,hi,hz1,hl,hst,goInt]
theorem ownE_copied {g n:Nat} {cur:Array Value} {ys:List α} {W:Go.World} (hg:W.heap[g]?=some (.cells cur E.T (0,0))) (hn:ys.length=n) (hb:n≤140737488355328):OwnE E (.slice (some ⟨g,0,none⟩) n n) ys (W.setRow g (flat E ys).toArray):=by
 subst hn
 exact OwnE.mk (setRow_heap W g cur _ E.T (0,0) hg) (Nat.le_refl _) (by omega) (by simp[flat_len]) (by rw[List.take_of_length_le (by simp[flat_len])])
theorem OwnE.setElem {xs:List α} {W:Go.World} {g cap i:Nat} (h:OwnE E (.slice (some ⟨g,0,none⟩) xs.length cap) xs W) (hi:i < xs.length) (y:α) {W':Go.World}
  (hW:∀ cur,W.heap[g]?=some (.cells cur E.T (0,0))->xs.length * E.k≤cur.size->∃ cur',W'.heap[g]?=some (.cells cur' E.T (0,0))/\cur'.size=cur.size/\∀ j,j < cur.size->cur'[j]?=if i * E.k≤j/\j < i * E.k+E.k then (E.f y)[j - i * E.k]? else cur[j]?) :
  OwnE E (.slice (some ⟨g,0,none⟩) xs.length cap) (xs.set i y) W':=by
 rcases h.cases with ⟨e,_⟩ | ⟨g2,cap2,cur,e,hg,h1,h2,h3,h4⟩
 ·simp at e
 ·simp at e
  obtain⟨rfl,rfl⟩:=e
  have hcc:xs.length * E.k≤cap * E.k:=Nat.mul_le_mul_right _ h1
  obtain⟨cur',k1,k2,k3⟩:=hW cur hg (by omega)
  have hkk:i * E.k+E.k≤xs.length * E.k:=by rw[<- Nat.succ_mul];exact Nat.mul_le_mul_right _ hi
  have:=OwnE.mk (E:=E) (xs:=xs.set i y) (W:=W') (g:=g) (cap:=cap) (cur:=cur') k1 (by simpa using h1) h2 (by omega) (by
   rw[List.length_set]
   refine List.ext_getElem? fun j=>?_
   have h4j:(cur.toList.take (xs.length * E.k))[j]?=(flat E xs)[j]?:=by rw[h4]
   by_cases hj:j < xs.length * E.k
   ·rw[List.getElem?_take_of_lt hj,Array.getElem?_toList] at h4j ⊢
    rw[k3 j (by omega)]
    have hp:=E.pos
    have hq:j / E.k < xs.length:=Nat.div_lt_of_lt_mul (by rw[Nat.mul_comm];exact hj)
    have hr:j % E.k < E.k:=Nat.mod_lt _ hp
    have ej:j / E.k * E.k+j % E.k=j:=by rw[Nat.mul_comm];exact Nat.div_add_mod j E.k
    have e2:=flat_get E (xs.set i y) (j / E.k) (j % E.k) (by simpa using hq) hr
    rw[ej] at e2
    rw[e2]
    by_cases hij:j / E.k=i
    ·rw[hij] at ej
     rw[if_pos ⟨by omega,by omega⟩,hij]
     have:(xs.set i y).getD i E.d=y:=by simp[List.getD,hi]
     rw[this,show j - i * E.k=j % E.k by omega]
    ·have hn:¬ (i * E.k≤j/\j < i * E.k+E.k):=by
      rintro⟨a1,a2⟩
      apply hij
      rw[<- Nat.succ_mul] at a2
      exact Nat.div_eq_of_lt_le a1 a2
     rw[if_neg hn,h4j]
     have e3:=flat_get E xs (j / E.k) (j % E.k) hq hr
     rw[ej] at e3
     rw[e3]
     congr 2
     simp[List.getD,List.getElem?_set,Ne.symm hij]
   ·rw[List.getElem?_eq_none (by simp;omega),List.getElem?_eq_none (by rw[flat_len,List.length_set];omega)])
  rwa [List.length_set] at this
end
theorem get_set' {α:Type} (cur:Array α) (i j:Nat) (v:α):(cur.setIfInBounds i v)[j]?=if i=j then (if i < cur.size then some v else none) else cur[j]?:=by
 rw[Array.getElem?_setIfInBounds]
theorem bun_set {g cap i:Nat} {xs:List Bun} {W:Go.World} (h:OwnE bunE (.slice (some ⟨g,0,none⟩) xs.length cap) xs W) (hi:i < xs.length) (y:Bun) :
  OwnE bunE (.slice (some ⟨g,0,none⟩) xs.length cap) (xs.set i y) ((((W.setCell ⟨g,i * 4,none⟩ (.int .i64 y.count)).setCell ⟨g,i * 4+1,none⟩ (.bool y.owner)).setCell ⟨g,i * 4+2,none⟩ (.bool y.has)).setCell ⟨g,i * 4+3,none⟩ (.int .i64 y.data)):=by
 refine h.setElem hi y fun cur hg hs=>?_
 refine⟨_,blk_set (blk_set (blk_set (blk_set hg (i * 4) _) (i * 4+1) _) (i * 4+2) _) (i * 4+3) _,by simp,fun j hj=>?_⟩
 have hk:bunE.k=4:=rfl
 rw[hk] at hs ⊢
 have hs2:i * 4+4≤cur.size:=by omega
 simp only[get_set',Array.size_setIfInBounds]
 by_cases a0:j=i * 4
 ·subst a0;rw[if_neg (by omega),if_neg (by omega),if_neg (by omega),if_pos rfl,if_pos (by omega),if_pos ⟨by omega,by omega⟩];simp[bunE,bunC]
 ·by_cases a1:j=i * 4+1
  ·subst a1;rw[if_neg (by omega),if_neg (by omega),if_pos rfl,if_pos (by omega),if_pos ⟨by omega,by omega⟩];simp[bunE,bunC]
  ·by_cases a2:j=i * 4+2
   ·subst a2;rw[if_neg (by omega),if_pos rfl,if_pos (by omega),if_pos ⟨by omega,by omega⟩];simp[bunE,bunC]
   ·by_cases a3:j=i * 4+3
    ·subst a3;rw[if_pos rfl,if_pos (by omega),if_pos ⟨by omega,by omega⟩];simp[bunE,bunC]
    ·rw[if_neg (by omega),if_neg (by omega),if_neg (by omega),if_neg (by omega),if_neg (by omega)]
theorem bun_cells {g cap i:Nat} {xs:List Bun} {W:Go.World} (h:OwnE bunE (.slice (some ⟨g,0,none⟩) xs.length cap) xs W) (hi:i < xs.length):(W.cell? ⟨g,i * 4,none⟩=some (.int .i64 (xs.getD i b0).count)/\W.cell? ⟨g,i * 4+1,none⟩=some (.bool (xs.getD i b0).owner)/\W.cell? ⟨g,i * 4+2,none⟩=some (.bool (xs.getD i b0).has)/\W.cell? ⟨g,i * 4+3,none⟩=some (.int .i64 (xs.getD i b0).data))/\∀ j,W.frozen? ⟨g,j,none⟩=false:=by
 obtain⟨g',cap',e,_,_,_,hc⟩:=own_some h hi
 simp at e
 obtain⟨rfl,rfl⟩:=e
 refine⟨⟨hc 0 (by decide),hc 1 (by decide),hc 2 (by decide),hc 3 (by decide)⟩,fun j=>?_⟩
 rcases h.cases with ⟨e,_⟩ | ⟨g2,cap2,cur,e,hg,_⟩
 ·simp at e
 ·simp at e
  obtain⟨rfl,_⟩:=e
  exact blk_frozen hg j
end Go.Proofs.YtiebppkhaiofeaaGreat.K
namespace Go.Proofs.YtiebppkhaiofeaaGreat.K
open Go.RowKit Go.Proofs.YtiebppkhaiofeaaGreatW.PrintWords Go.Proofs.YtiebppkhaiofeaaGreat.S
open Go.ChangeMaps Go.MapKept
theorem map_eq_nil (t k e:TypeId) (b:Nat) (h:Tryz.prog.underlying t=some (.map k e)) (w:Go.World):(binOp .eql t (.map (some b)) (.map none)).run Tryz.prog w=.ok (.bool false) w:=by
 have h0:∀ d,(Go.Op.equalIn (d+1) t (.map (some b)) (.map none)).run Tryz.prog w=.ok false w:=fun d=>by simp[Go.Op.equalIn,run_underlying h]
 have h1:=h0 9999
 simp only[binOp]
 simp[show Go.Op.equal t (.map (some b)) (.map none)=Go.Op.equalIn (9999+1) t (.map (some b)) (.map none) from rfl,h1]
theorem map_assert (t xT k e:TypeId) (v:Value) (h:Tryz.prog.underlying t=some (.map k e)) (w:Go.World):(Instr.typeAssert (.iface t v) xT t false).run Tryz.prog w=.ok v w:=by
 simp[Instr.typeAssert,run_underlying h,go_sem,Result.andThen]
theorem map_laid {b:Nat} {es:Array MapEntry} {ck:Nat} (t:TypeId) {w:Go.World} (hb:w.heap[b]?=some (.map es ck)):(Extern.MapsClone.clone #[.iface t (.map (some b))]).run Tryz.prog w=.ok (.iface t (.map (some w.heap.size))) (w.alloc (.map es ck)):=by
 have e:Extern.MapsClone.clone #[.iface t (.map (some b))]=(getObj b >>= fun o=>match o with
   | .map entries clock=>(newObj (.map entries clock) >>= fun n=>pure (.iface t (.map (some n))))
   | _=>stuck "maps.clone: a map expected"):=rfl
 rw[e]
 simp[MapKept.run_getObj_map hb,Result.andThen,go_sem]
theorem cloneMB_under:Tryz.prog.underlying 131=some (.map 3 4):=by kernel_rfl
theorem cloneMB_any {b:Nat} {es:Array MapEntry} {ck:Nat} {w:Go.World} (hb:w.heap[b]?=some (.map es ck)):Calls Tryz.prog 81 #[.map (some b)] w fun e w'=>e=.returned (.map (some w.heap.size))/\w'=w.alloc (.map es ck):=by
 have hq:=map_eq_nil 131 _ _ b cloneMB_under
 go_enter Tryz.func81,Tryz.ntmps81
 go_wp2
 rw[run_callFunc_extern Tryz.func108 (by kernel_rfl) (by kernel_rfl) (by kernel_rfl) (e:=Extern.MapsClone.clone) (by kernel_rfl),map_laid 131 hb]
 simp only[Result.andThen]
 rw[Oper.upon_value]
 go_wp2
 rw[map_assert 131 _ _ _ _ cloneMB_under]
 simp only[Result.andThen]
 rw[Oper.upon_value]
 go_wp2
 go_ret
 exact⟨rfl,rfl⟩
theorem cloneMI_under:Tryz.prog.underlying 31=some (.map 3 3):=by kernel_rfl
theorem cloneMI_any {b:Nat} {es:Array MapEntry} {ck:Nat} {w:Go.World} (hb:w.heap[b]?=some (.map es ck)):Calls Tryz.prog 82 #[.map (some b)] w fun e w'=>e=.returned (.map (some w.heap.size))/\w'=w.alloc (.map es ck):=by
 have hq:=map_eq_nil 31 _ _ b cloneMI_under
 go_enter Tryz.func82,Tryz.ntmps82
 go_wp2
 rw[run_callFunc_extern Tryz.func108 (by kernel_rfl) (by kernel_rfl) (by kernel_rfl) (e:=Extern.MapsClone.clone) (by kernel_rfl),map_laid 31 hb]
 simp only[Result.andThen]
 rw[Oper.upon_value]
 go_wp2
 rw[map_assert 31 _ _ _ _ cloneMI_under]
 simp only[Result.andThen]
 rw[Oper.upon_value]
 go_wp2
 go_ret
 exact⟨rfl,rfl⟩
theorem cloneMT_under:Tryz.prog.underlying 175=some (.map 3 45):=by kernel_rfl
theorem cloneMT_any {b:Nat} {es:Array MapEntry} {ck:Nat} {w:Go.World} (hb:w.heap[b]?=some (.map es ck)):Calls Tryz.prog 106 #[.map (some b)] w fun e w'=>e=.returned (.map (some w.heap.size))/\w'=w.alloc (.map es ck):=by
 have hq:=map_eq_nil 175 _ _ b cloneMT_under
 go_enter Tryz.func106,Tryz.ntmps106
 go_wp2
 rw[run_callFunc_extern Tryz.func108 (by kernel_rfl) (by kernel_rfl) (by kernel_rfl) (e:=Extern.MapsClone.clone) (by kernel_rfl),map_laid 175 hb]
 simp only[Result.andThen]
 rw[Oper.upon_value]
 go_wp2
 rw[map_assert 175 _ _ _ _ cloneMT_under]
 simp only[Result.andThen]
 rw[Oper.upon_value]
 go_wp2
 go_ret
 exact⟨rfl,rfl⟩
theorem cloneMA_under:Tryz.prog.underlying 43=some (.map 3 55):=by kernel_rfl
theorem cloneMA_any {b:Nat} {es:Array MapEntry} {ck:Nat} {w:Go.World} (hb:w.heap[b]?=some (.map es ck)):Calls Tryz.prog 107 #[.map (some b)] w fun e w'=>e=.returned (.map (some w.heap.size))/\w'=w.alloc (.map es ck):=by
 have hq:=map_eq_nil 43 _ _ b cloneMA_under
 go_enter Tryz.func107,Tryz.ntmps107
 go_wp2
 rw[run_callFunc_extern Tryz.func108 (by kernel_rfl) (by kernel_rfl) (by kernel_rfl) (e:=Extern.MapsClone.clone) (by kernel_rfl),map_laid 43 hb]
 simp only[Result.andThen]
 rw[Oper.upon_value]
 go_wp2
 rw[map_assert 43 _ _ _ _ cloneMA_under]
 simp only[Result.andThen]
 rw[Oper.upon_value]
 go_wp2
 go_ret
 exact⟨rfl,rfl⟩
end Go.Proofs.YtiebppkhaiofeaaGreat.K
namespace Go.Proofs.YtiebppkhaiofeaaGreat.K
open Go.RowKit Go.Proofs.YtiebppkhaiofeaaGreatW.PrintWords Go.Proofs.YtiebppkhaiofeaaGreat.S
attribute [local go_sem] World.cell?_alloc_some frz_alloc
open Go.ChangeMaps Go.MapKept
section
variable {t:Table} {b:Nat} {F F' G:Set_} {w w':Go.World}
theorem TabAt.keep (h:TabAt t b F w) (hk:KS G w w') (hs:∀ x,x < w.heap.size->F x->F' x/\¬ G x):TabAt t b F' w':=by
 obtain⟨ba,bo,ea,ca,eo,co,fa,fo,h1,h2,h3,h4,h5,h6,h7,h8,h9,h10,h11,h12,h13⟩:=h
 have i1:=hs b (blk_lt h1) h9
 have i2:=hs ba (blk_lt h2) h10
 have i3:=hs bo (blk_lt h3) h11
 exact⟨ba,bo,ea,ca,eo,co,fa,fo,hk.at_ h1 i1.2,hk.at_ h2 i2.2,hk.at_ h3 i3.2,h4,h5,h6,h7,h8,i1.1,i2.1,i3.1,h12,h13⟩
theorem TabAt.lt (h:TabAt t b F w):b < w.heap.size:=by obtain⟨_,_,_,_,_,_,_,_,h1,_⟩:=h;exact blk_lt h1
theorem TabAt.mem (h:TabAt t b F w):F b:=by obtain⟨_,_,_,_,_,_,_,_,h1,h2,h3,h4,h5,h6,h7,h8,h9,_⟩:=h;exact h9
end
theorem under43:Tryz.prog.underlying 43=some (.map 3 55):=by kernel_rfl
theorem under31:Tryz.prog.underlying 31=some (.map 3 3):=by kernel_rfl
theorem under3:Tryz.prog.underlying 3=some (.int .i64):=by kernel_rfl
theorem zero55 (w:Go.World):(zeroValue 55).run Tryz.prog w=.ok (actV act0) w:=by
 obtain⟨i0,hi,hz0,hz1,hz2⟩:=info_parts info55
 simp[zeroValue,typeInfo,hi,hz0,actV,act0]
theorem zero3 (w:Go.World):(zeroValue 3).run Tryz.prog w=.ok (.int .i64 0) w:=by
 obtain⟨i0,hi,hz0,hz1,hz2⟩:=info_parts info3
 simp[zeroValue,typeInfo,hi,hz0]
def TabP (v:Value) (t:Table) (b:Nat) (F:Set_) (w:Go.World) (e:Ending) (w':Go.World):Prop:=e=.returned v/\TabAt t b (gr F w) w'/\KS F w w'
theorem field55 (a b c:Int) (w:Go.World):(Instr.field 55 (.agg #[.int .i64 a,.int .i64 b,.int .i64 c]) 2).run Tryz.prog w=.ok (.int .i64 c) w:=by kernel_rfl
attribute [local go_sem] field55
theorem bdrewN {w W:Go.World} (h:Below w.heap.size w W) (n:Nat):Below w.heap.size w (W.drewN n):=⟨h.os,h.tape,h.output,h.size,h.block⟩
theorem map_drewN {w:Go.World} {b:Nat} {es:Array MapEntry} {ck:Nat} (h:w.heap[b]?=some (.map es ck)) (n:Nat):(w.drewN n).heap[b]?=some (.map es ck):=h
theorem map_alloc {w:Go.World} {b:Nat} {es:Array MapEntry} {ck:Nat} (h:w.heap[b]?=some (.map es ck)) (o:Obj):(w.alloc o).heap[b]?=some (.map es ck):=blk_alloc h o
def Table.actOf (t:Table) (k:Int):S.Act:=(t.act k).getD act0
theorem seqOf_eq (t:Table) (k:Int):t.seqOf k=(Table.actOf t k).seq:=by unfold Table.seqOf Table.actOf;cases t.act k <;> rfl
theorem getD_act {f:Int->Option Value} {t:Table} (h:∀ k,f k=(t.act k).map actV) (k:Int):(f k).getD (actV act0)=actV (Table.actOf t k):=by
 rw[h k];unfold Table.actOf;cases t.act k <;> rfl
theorem tabNew_any (w:Go.World):Calls Tryz.prog 49 #[] w fun e w'=>∃ b,e=.returned (.pointer (some ⟨b,0,none⟩))/\TabAt Table.new b (nw w) w'/\Below w.heap.size w w':=by
 have m1:=fun w:Go.World=>run_makeMap (P:=Tryz.prog) 43 w
 have m2:=fun w:Go.World=>run_makeMap (P:=Tryz.prog) 31 w
 go_enter Tryz.func49,Tryz.ntmps49
 go_wp2
 go_ret
 refine⟨_,rfl,⟨w.heap.size,w.heap.size+1,#[],0,#[],0,_,_,?_,?_,?_,IM.empty,IM.empty,by simp;omega,by simp,by omega,?_,?_,?_,fun k=>rfl,fun k=>rfl⟩,?_⟩
 ·have:=blk_new ((w.alloc (.map #[] 0)).alloc (.map #[] 0)) (.cells #[.map (some w.heap.size),.map (some (w.heap.size+1))] 179);simpa using this
 ·exact blk_alloc (blk_alloc (heap_alloc w _).1 _) _
 ·have:=(heap_alloc (w.alloc (.map #[] 0)) (.map #[] 0)).1;exact blk_alloc (by simpa using this) _
 ·show w.heap.size≤w.heap.size+1+1;omega
 ·exact Nat.le_refl _
 ·show w.heap.size≤_;omega
 ·exact below_alloc (below_alloc (below_alloc (Below.refl _ _) _) _) _
theorem tabActive_any {t:Table} {b:Nat} {F:Set_} {w:Go.World} (hT:TabAt t b F w) (k:Int):Calls Tryz.prog 150 #[.pointer (some ⟨b,0,none⟩),.int .i64 k] w (RV (.tuple #[actV (Table.actOf t k),.bool (t.act k).isSome]) w):=by
 obtain⟨ba,bo,ea,ca,eo,co,fa,fo,h1,h2,h3,h4,h5,h6,h7,h8,h9,h10,h11,h12,h13⟩:=hT
 have c0:=cw h1 0 (v:=.map (some ba))
 have c1:=cw h1 1 (v:=.map (some bo))
 have hl:=h4.look2 (map_alloc h2 (.cells #[.int .i64 0,.int .i64 0,.int .i64 0] 55)) under43 under3 (zero55 _) k
 have hs:(fa k).isSome=(t.act k).isSome:=by rw[h12 k];cases t.act k <;> rfl
 rw[getD_act h12 k,hs] at hl
 clear h1 h2 h3 h4 h5 h6 h7 h8 h9 h10 h11 h12 h13 hs
 simp only[actV] at hl ⊢
 go_enter Tryz.func150,Tryz.ntmps150
 go_wp2_with fail
 exact bodyPost_ret (v:=.tuple #[actV (Table.actOf t k),.bool (t.act k).isSome]) (by simp[results,Tryz.results150,go_sem,actV]) rfl ⟨rfl,by repeat (first | with_reducible exact Below.refl _ _ | with_reducible apply below_alloc | with_reducible refine Below.setCell ?_ (by dsimp only;omega) _)⟩
theorem tabActivate_any {t:Table} {b:Nat} {F:Set_} {w:Go.World} (hT:TabAt t b F w) (a:S.Act):Calls Tryz.prog 136 #[.pointer (some ⟨b,0,none⟩),actV a] w (TabP (.bool (t.activate a).2) (t.activate a).1 b F w):=by
 have T:=AS hT
 have hbl:=hT.lt
 obtain⟨ba,bo,ea,ca,eo,co,fa,fo,h1,h2,h3,h4,h5,h6,h7,h8,h9,h10,h11,h12,h13⟩:=hT
 have c0:=cw h1 0 (v:=.map (some ba))
 have c1:=cw h1 1 (v:=.map (some bo))
 obtain⟨ab,an,aq⟩:=a
 have BX:=AS (Below.refl w.heap.size w)
 have hlo:=fun n=>h5.look (map_drewN (map_alloc h3 (.cells #[.int .i64 ab,.int .i64 an,.int .i64 aq] 55)) n) under31 under3 (zero3 _) ab
 have hla:=fun n=>h4.look (map_drewN (map_alloc h2 (.cells #[.int .i64 ab,.int .i64 an,.int .i64 aq] 55)) n) under43 under3 (zero55 _) ab
 simp only[h13 ab] at hlo
 simp only[getD_act h12 ab] at hla
 have KP:=AS (show ∀ n,TabAt t b (gr F w) ((w.alloc (.cells #[.int .i64 ab,.int .i64 an,.int .i64 aq] 55)).drewN n)/\KS F w ((w.alloc (.cells #[.int .i64 ab,.int .i64 an,.int .i64 aq] 55)).drewN n) from fun n=>⟨T.out.keep (KS.below (fun _=>False) (bdrewN (below_alloc (Below.refl _ _) _) n)) (fun x _ h=>⟨.inl h,id⟩),KS.below _ (bdrewN (below_alloc (Below.refl _ _) _) n)⟩)
 have hq:=AS (seqOf_eq t ab)
 clear T BX
 simp only[actV] at hla ⊢
 by_cases q1:aq < 1
 ·rw[show t.activate ⟨ab,an,aq⟩=(t,false) from if_pos (.inl q1)]
  have H:=AS (And.intro h1 h2)
  clear h1 h2 h3 h4 h5 h6 h7 h8 h9 h10 h11 h12 h13
  go_enter Tryz.func136,Tryz.ntmps136
  go_wp2_with fail
  go_quiet (fail)
  go_wp2
  go_ret
  exact⟨rfl,KP.out nq⟩
 ·have d1:decide (aq < 1)=false:=by simpa using q1
  by_cases q2:aq≤t.over ab
  ·rw[show t.activate ⟨ab,an,aq⟩=(t,false) from if_pos (.inr (.inl q2))]
   clear h1 h2 h3 h4 h5 h6 h7 h8 h9 h10 h11 h12 h13
   go_enter Tryz.func136,Tryz.ntmps136
   go_wp2_with fail
   go_quiet (fail)
   go_wp2
   go_ret
   exact⟨rfl,KP.out nq⟩
  ·have d2:decide (aq≤t.over ab)=false:=by simpa using q2
   by_cases q3:aq≤(Table.actOf t ab).seq
   ·rw[show t.activate ⟨ab,an,aq⟩=(t,false) from if_pos (.inr (.inr (by rw[hq.out];exact q3)))]
    clear h1 h2 h3 h4 h5 h6 h7 h8 h9 h10 h11 h12 h13
    go_enter Tryz.func136,Tryz.ntmps136
    go_wp2_with fail
    go_quiet (fail)
    go_wp2
    go_ret
    exact⟨rfl,KP.out nq⟩
   ·have d3:decide (aq≤(Table.actOf t ab).seq)=false:=by simpa using q3
    rw[show t.activate ⟨ab,an,aq⟩=({ t with act:=upd t.act ab (some ⟨ab,an,aq⟩)},true) from if_neg (by show ¬ (aq < 1∨aq≤t.over ab∨aq≤t.seqOf ab);rw[hq.out];omega)]
    have B1:=AS h1
    have B2:=AS h2
    have B3:=AS h3
    have M4:=AS h4
    have M5:=AS h5
    have R:=AS (And.intro h6 (And.intro h7 (And.intro h8 (And.intro h9 (And.intro h10 (And.intro h11 (And.intro h12 h13)))))))
    clear h1 h2 h3 h4 h5 h6 h7 h8 h9 h10 h11 h12 h13
    go_enter Tryz.func136,Tryz.ntmps136
    go_wp2_with fail
    go_quiet (fail)
    have Q0:=AS (bdrewN (below_alloc (Below.refl _ w) (.cells #[.int .i64 ab,.int .i64 an,.int .i64 aq] 55)) nq)
    have Q1:=AS (blk_below B1.out Q0.out)
    have Q2:=AS (blk_below B2.out Q0.out)
    have Q3:=AS (blk_below B3.out Q0.out)
    have Q4:=AS (show((w.alloc (.cells #[.int .i64 ab,.int .i64 an,.int .i64 aq] 55)).drewN nq).heap[w.heap.size]?=_ from blk_new w (.cells #[.int .i64 ab,.int .i64 an,.int .i64 aq] 55))
    generalize (w.alloc (.cells #[.int .i64 ab,.int .i64 an,.int .i64 aq] 55)).drewN nq=W at Q0 Q1 Q2 Q3 Q4 ⊢
    clear c0 c1 hlo hla KP
    have c0:=cw Q1.out 0 (v:=.map (some ba))
    have e0:=cw Q4.out 0 (v:=.int .i64 ab)
    have e1:=cw Q4.out 1 (v:=.int .i64 an)
    have e2:=cw Q4.out 2 (v:=.int .i64 aq)
    obtain⟨es',ck',hrun,him⟩:=M4.out.put (w:=W.drew) Q2.out under43 under3 ab (.agg #[.int .i64 ab,.int .i64 an,.int .i64 aq])
    have IM':=AS him
    clear him
    go_upto_region 3 with fail
    go_region
    all_goals
     go_wp2
     go_ret
     refine⟨rfl,⟨ba,bo,es',ck',eo,co,fput fa ab (actV ⟨ab,an,aq⟩),fo,?_,?_,?_,IM'.out,M5.out,R.out.1,R.out.2.1,R.out.2.2.1,.inl R.out.2.2.2.1,.inl R.out.2.2.2.2.1,.inl R.out.2.2.2.2.2.1,?_,R.out.2.2.2.2.2.2.2⟩,?_⟩
     ·exact(set_far (w:=W.drew) Q2.out _ R.out.1).trans Q1.out
     ·exact set_at (w:=W.drew) Q2.out _
     ·exact(set_far (w:=W.drew) Q2.out _ (Ne.symm R.out.2.2.1)).trans Q3.out
     ·intro k
      by_cases hk:k=ab
      ·subst hk;simp[fput,upd]
      ·simp[fput,upd,hk,R.out.2.2.2.2.2.2.1 k]
     ·exact KS.block (W:=W.drew) (KS.drew (KS.below F Q0.out)) (.inl R.out.2.2.2.2.1) _
theorem tabDeactivate_any {t:Table} {b:Nat} {F:Set_} {w:Go.World} (hT:TabAt t b F w) (k s:Int):Calls Tryz.prog 137 #[.pointer (some ⟨b,0,none⟩),.int .i64 k,.int .i64 s] w (TabP (.tuple #[]) (t.deactivate k s) b F w):=by
 obtain⟨ba,bo,ea,ca,eo,co,fa,fo,h1,h2,h3,h4,h5,h6,h7,h8,h9,h10,h11,h12,h13⟩:=hT
 have c0:=cw h1 0 (v:=.map (some ba))
 have c1:=cw h1 1 (v:=.map (some bo))
 have R:=AS (And.intro h6 (And.intro h7 (And.intro h8 (And.intro h9 (And.intro h10 (And.intro h11 (And.intro h12 h13)))))))
 have hlo:=h5.look (w:=w.drew) h3 under31 under3 (zero3 _) k
 rw[h13 k] at hlo
 have hla:=h4.look2 (w:=w.drew) h2 under43 under3 (zero55 _) k
 have hs:(fa k).isSome=(t.act k).isSome:=by rw[h12 k];cases t.act k <;> rfl
 obtain⟨es',ck',hrun,him⟩:=h5.put (w:=w.drew) h3 under31 under3 k (.int .i64 (max (t.over k) s))
 have hla2:=h4.look2 (w:=setBlock w.drew bo (.map es' ck')) ((set_far (w:=w.drew) h3 _ h8).trans h2) under43 under3 (zero55 _) k
 rw[getD_act h12 k,hs] at hla2
 have B1:=AS h1
 have B2:=AS h2
 have B3:=AS h3
 have M4:=AS h4
 have M5:=AS him
 have hm:(t.over k < s/\max (t.over k) s=s)∨(¬ t.over k < s/\max (t.over k) s=t.over k):=by omega
 have W1:=AS (set_at (w:=w.drew) h3 (.map es' ck'))
 have W2:=AS ((set_far (w:=w.drew) h3 (.map es' ck') h7).trans h1)
 have W3:=AS ((set_far (w:=w.drew) h3 (.map es' ck') h8).trans h2)
 have WK:=AS (KS.block (F:=F) (W:=w.drew) (KS.drew (KS.refl F w)) (.inl h11) (.map es' ck'))
 clear h1 h2 h3 h4 h5 h6 h7 h8 h9 h10 h11 h12 h13 hs hla him
 go_enter Tryz.func137,Tryz.ntmps137
 go_upto_region 0 with fail
 go_cut [21] (fun v21 wx=>wx=setBlock w.drew bo (.map es' ck'))
 case first =>
  rcases hm with ⟨hm1,hm⟩ | ⟨hm1,hm⟩
  all_goals
   rw[hm] at hrun
   go_region
   all_goals
    go_wp2_with fail
    go_meet
    exact rfl
 case rest =>
  clear c0 c1 hlo hrun hm
  rw[<- hcut] at hla2
  have V1:=AS (show wc.heap[bo]?=some (.map es' ck') by rw[hcut];exact W1.out)
  have V2:=AS (show wc.heap[b]?=some (.cells #[.map (some ba),.map (some bo)] 179 (0,0)) by rw[hcut];exact W2.out)
  have V3:=AS (show wc.heap[ba]?=some (.map ea ca) by rw[hcut];exact W3.out)
  have VK:=AS (show KS F w wc by rw[hcut];exact WK.out)
  clear hcut W1 W2 W3 WK B1 B2 B3
  have c0:=cw V2.out 0 (v:=.map (some ba))
  have FIN:=AS (show ∀ o,TabAt ⟨t.act,upd t.over k (max (t.over k) s)⟩ b (gr F w) (wc.alloc o)/\KS F w (wc.alloc o) from fun o=>by
   refine⟨⟨ba,bo,ea,ca,es',ck',fa,_,blk_alloc V2.out _,map_alloc V3.out _,map_alloc V1.out _,M4.out,M5.out,R.out.1,R.out.2.1,R.out.2.2.1,.inl R.out.2.2.2.1,.inl R.out.2.2.2.2.1,.inl R.out.2.2.2.2.2.1,R.out.2.2.2.2.2.2.1,?_⟩,VK.out.alloc _⟩
   intro j
   by_cases hj:j=k
   ·subst hj;simp[fput,upd]
   ·simp[fput,upd,hj,R.out.2.2.2.2.2.2.2 j])
  cases hact:t.act k with
  | none =>
   rw[hact] at hla2
   rw[show Table.actOf t k=act0 by simp[Table.actOf,hact]] at hla2
   simp only[actV,act0,Option.isSome_none] at hla2
   have HA:=AS hact
   clear hact
   go_wp2
   have hd:t.deactivate k s=⟨t.act,upd t.over k (max (t.over k) s)⟩:=by simp[Table.deactivate,HA.out]
   rw[hd]
   go_end0
   exact⟨rfl,FIN.out _⟩
  | some a =>
   obtain⟨a1,a2,a3⟩:=a
   rw[hact] at hla2
   rw[show Table.actOf t k=⟨a1,a2,a3⟩ by simp[Table.actOf,hact]] at hla2
   simp only[actV,Option.isSome_some] at hla2
   have HA:=AS hact
   clear hact
   by_cases hs:a3≤s
   ·obtain⟨ed,hdel,hid⟩:=M4.out.del (w:=wc.alloc (.cells #[.int .i64 a1,.int .i64 a2,.int .i64 a3] 55)) (map_alloc V3.out _) under43 under3 k 3 0
    have ID:=AS hid
    clear hid
    go_wp2
    rw[show t.deactivate k s=⟨upd t.act k none,upd t.over k (max (t.over k) s)⟩ by simp[Table.deactivate,HA.out,hs]]
    go_end0
    have N3:=map_alloc V3.out (.cells #[.int .i64 a1,.int .i64 a2,.int .i64 a3] 55)
    refine⟨rfl,⟨ba,bo,ed,ca,es',ck',fdel fa k,fput fo k (.int .i64 (max (t.over k) s)),(set_far N3 _ R.out.1).trans (blk_alloc V2.out _),set_at N3 _,(set_far N3 _ (Ne.symm R.out.2.2.1)).trans (map_alloc V1.out _),ID.out,M5.out,R.out.1,R.out.2.1,R.out.2.2.1,.inl R.out.2.2.2.1,.inl R.out.2.2.2.2.1,.inl R.out.2.2.2.2.2.1,?_,?_⟩,(VK.out.alloc _).block (.inl R.out.2.2.2.2.1) _⟩
    ·intro j
     by_cases hj:j=k
     ·subst hj;simp[fdel,upd]
     ·simp[fdel,upd,hj,R.out.2.2.2.2.2.2.1 j]
    ·intro j
     by_cases hj:j=k
     ·subst hj;simp[fput,upd]
     ·simp[fput,upd,hj,R.out.2.2.2.2.2.2.2 j]
   ·go_wp2
    rw[show t.deactivate k s=⟨t.act,upd t.over k (max (t.over k) s)⟩ by simp[Table.deactivate,HA.out];intro;omega]
    go_end0
    exact⟨rfl,FIN.out _⟩
theorem tabCopy_any {t:Table} {b:Nat} {F:Set_} {w:Go.World} (hT:TabAt t b F w):Calls Tryz.prog 79 #[.pointer (some ⟨b,0,none⟩)] w fun e w'=>∃ b',e=.returned (.pointer (some ⟨b',0,none⟩))/\TabAt t b' (nw w) w'/\Below w.heap.size w w':=by
 obtain⟨ba,bo,ea,ca,eo,co,fa,fo,h1,h2,h3,h4,h5,h6,h7,h8,h9,h10,h11,h12,h13⟩:=hT
 have c0:=cw h1 0 (v:=.map (some ba))
 have c1:=cw h1 1 (v:=.map (some bo))
 have B1:=AS h1
 have B2:=AS h2
 have B3:=AS h3
 have R:=AS (And.intro h4 (And.intro h5 (And.intro h12 h13)))
 have FIN:=AS (show ∀ p q n:Nat,∀ W:Go.World,W.heap.size=n->Below w.heap.size w W->W.heap[p]?=some (.map ea ca)->W.heap[q]?=some (.map eo co)->w.heap.size≤p->w.heap.size≤q->p≠q->TabAt t n (nw w) (W.alloc (.cells #[.map (some p),.map (some q)] 179))/\Below w.heap.size w (W.alloc (.cells #[.map (some p),.map (some q)] 179)) from by
  intro p q n W hn hb hp hq h1 h2 hne
  subst hn
  have:=blk_lt hp
  have:=blk_lt hq
  exact⟨⟨p,q,ea,ca,eo,co,fa,fo,blk_new W _,map_alloc hp _,map_alloc hq _,h4,h5,by omega,by omega,hne,hb.size,h1,h2,h12,h13⟩,below_alloc hb _⟩)
 clear h1 h2 h3 h4 h5 h6 h7 h8 h9 h10 h11 h12 h13
 go_enter Tryz.func79,Tryz.ntmps79
 go_wp2_with fail
 go_region_with (first | (go_at_call 107;refine(cloneMA_any (by first | exact(B2.out:w.drew.heap[ba]?=_) | exact map_alloc (w:=w.drew) B2.out _)).mono ?_;rintro e w1 ⟨rfl,rfl⟩) | (go_at_call 82;refine(cloneMI_any (by first | exact(B3.out:w.drew.heap[bo]?=_) | exact map_alloc (w:=w.drew) B3.out _)).mono ?_;rintro e w1 ⟨rfl,rfl⟩))
 all_goals
  go_wp2
  go_ret
  first
   | exact⟨_,rfl,FIN.out w.heap.size (w.heap.size+1) _ ((w.drew.alloc (.map ea ca)).alloc (.map eo co)) (by rw[World.size_alloc,World.size_alloc];rfl) (below_alloc (below_alloc (Below.drew (Below.refl _ _)) _) _) (map_alloc (heap_alloc w.drew _).1 _) (by have:=(heap_alloc (w.drew.alloc (.map ea ca)) (.map eo co)).1;rw[World.size_alloc] at this;exact this) (Nat.le_refl _) (by omega) (by omega)⟩
   | exact⟨_,rfl,FIN.out (w.heap.size+1) w.heap.size _ ((w.drew.alloc (.map eo co)).alloc (.map ea ca)) (by rw[World.size_alloc,World.size_alloc];rfl) (below_alloc (below_alloc (Below.drew (Below.refl _ _)) _) _) (by have:=(heap_alloc (w.drew.alloc (.map eo co)) (.map ea ca)).1;rw[World.size_alloc] at this;exact this) (map_alloc (heap_alloc w.drew _).1 _) (by omega) (Nat.le_refl _) (by omega)⟩
end Go.Proofs.YtiebppkhaiofeaaGreat.K
