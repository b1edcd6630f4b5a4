/- Part of the proof of TopPolicies: what functions of the program do. -/
import Derived.Laws.CopyRow
import Derived.Laws.Externs
import Derived.Test.YtiebppkhaiofeaaGreatP02
import Derived.Test.YtiebppkhaiofeaaGreatP00
set_option maxHeartbeats 4000000
set_option maxRecDepth 100000
set_option linter.unusedVariables false
set_option linter.unusedSimpArgs false
open Go.IntKind renaming i64→I
open Go.Value renaming slice→J, int→V, bool→aA, pointer→bA
open Option renaming some→M, none→U
open Go.Obj renaming cells→O
open Go.ChangeMaps renaming setBlock→aB
open Go renaming Calls→bB, World→cA, bodyPost_ret→yA
open Go.Proofs.Tryz renaming prog→dA
open Go.Proofs.YtiebppkhaiofeaaGreatW.PrintWords renaming below_alloc→eA, blk_lt→eB, blk_frozen→jA, blk_below→kA, blk_alloc→lA, blk_set→mA, blk_new→nA
open Go.RowKit.Below renaming refl→fA, drew→iA, setCell→oA
open Nat renaming le_trans→lB, le_refl→pA
open Go.Proofs.YtiebppkhaiofeaaGreat.K.KS renaming below→pB, refl→qB, drew→sB
open And renaming intro→qA
open Go.World renaming size_alloc→rA
open List renaming replicate→uA
open Bool renaming false_eq_true→vA
namespace Go.Proofs.YtiebppkhaiofeaaGreat.K
open Go.RowKit Go.Proofs.YtiebppkhaiofeaaGreatW.PrintWords Go.Proofs.YtiebppkhaiofeaaGreat.S
open Go.MapKept
section
variable {α:Type} {E:El α}
theorem flat_rep (n:Nat):flat E (uA n E.d)=(madeCells E.z.cells (n * E.k)).toList:=by
 have hz:=E.hz
 have hk:E.z.cells.size=E.k:=by have:=congrArg List.length hz;rw[E.len] at this;simpa using this
 have hp:=E.pos
 refine List.ext_getElem? fun j=>?_
 by_cases hj:j < n * E.k
 ·have hq:j / E.k < n:=Nat.div_lt_of_lt_mul (by rw[Nat.mul_comm];exact hj)
  have hr:j % E.k < E.k:=Nat.mod_lt _ hp
  have ej:j / E.k * E.k+j % E.k=j:=by rw[Nat.mul_comm];exact Nat.div_add_mod j E.k
  have e2:=flat_get E (uA n E.d) (j / E.k) (j % E.k) (by simpa using hq) hr
  rw[ej] at e2
  rw[e2,show(uA n E.d).getD (j / E.k) E.d=E.d by simp[List.getD,hq]]
  rw[<- hz]
  have h3:j % E.k < E.z.cells.size:=by rw[hk];exact hr
  simp[madeCells,hj,hk,h3]
  rw[getElem!_pos E.z.cells _ h3]
  exact Array.getElem?_eq_getElem h3
 ·rw[List.getElem?_eq_none (by rw[flat_len];simp;omega),List.getElem?_eq_none (by simp[madeCells];omega)]
theorem run_makeE (n:Nat) (h:n * E.bys≤140737488355328) (W:cA):(Instr.makeSlice E.S (V I n) (V I n)).run dA W=.ok (J (M ⟨W.heap.size,0,U⟩) n n) (W.alloc (O (flat E (uA n E.d)).toArray E.T)):=by
 obtain⟨i0,hi,hz0,hz1,hz2⟩:=info_parts E.info
 have hb:=E.hb
 have hn:n≤140737488355328:=lB (Nat.le_mul_of_pos_right _ vB) h
 have hm:((n * E.bys:Nat):Int)≤140737488355328:=vB
 have:=run_make (P:=dA) W E.S E.T i0 E.z E.hS hi hz0 .i64 .i64 n n vB (Int.le_refl _) (by rw[hz2,Int.mul_comm];rw[Int.natCast_mul] at hm;omega) vB
 rw[this,flat_rep,hz1]
 simp
theorem ownE_made (n:Nat) (h:n * E.bys≤140737488355328) (W:cA):OwnE E (J (M ⟨W.heap.size,0,U⟩) n n) (uA n E.d) (W.alloc (O (flat E (uA n E.d)).toArray E.T)):=by
 have hb:=E.hb
 have hn:n≤140737488355328:=lB (Nat.le_mul_of_pos_right _ vB) h
 have:=OwnE.mk (E:=E) (xs:=uA n E.d) (W:=W.alloc (O (flat E (uA n E.d)).toArray E.T)) (g:=W.heap.size) (cap:=n) (cur:=(flat E (uA n E.d)).toArray) (heap_alloc W _).1 zB vB (by simp[flat_len]) (by rw[List.take_of_length_le (by simp[flat_len])])
 rwa [List.length_replicate] at this
theorem run_copyE {g n:Nat} {cur:Array Value} {A:Option Addr} {ys:List α} {c m:Nat} {W:cA} (ty:TypeId) (hg:W.heap[g]?=M (O cur E.T (0,0))) (hc:cur.size=n * E.k) (hR:RowE E W A ys) (hn:ys.length=n) (hm:m=n) (hA:A=U->ys=[]) :
  (Builtin.copy_ #[E.S,E.S] ty #[J (M ⟨g,0,U⟩) n n,J A m c]).run dA W=.ok (V I n) (W.setRow g (flat E ys).toArray):=by
 subst hm
 obtain⟨i0,hi,hz0,hz1,hz2⟩:=info_parts E.info
 have hst:=run_storeCells_at dA g 0 E.T (flat E ys) 0 cur W hg (by rw[flat_len,hn];omega) (flat_one E ys)
 simp only[Nat.zero_add,List.take_zero,List.nil_append] at hst
 rw[List.drop_of_length_le (by rw[flat_len,hn];simp;omega),List.append_nil] at hst
 cases A with
 | none =>
  obtain rfl:=hA rfl
  simp at hn
  subst hn
  have e0:cur=#[]:=by apply Array.eq_empty_of_size_eq_zero;omega
  subst e0
  have:W.setRow g (flat E ([]:List α)).toArray=W:=setRow_self W g #[] E.T (0,0) hg
  rw[this]
  simp[Builtin.copy_,run_underlying E.hS,Builtin.lenOf,Builtin.firstCells,sizeOf,typeInfo,hi,storeCells,goInt]
 | some ad =>
  have hl:=run_loadCells_list (P:=dA) W ad (flat E ys) hR.news
  rw[flat_len,hn] at hl
  simp[Builtin.copy_,run_underlying E.hS,Builtin.lenOf,Builtin.firstCells,sizeOf,typeInfo,hi,hz1,hl,hst,goInt]
theorem ownE_copied {g n:Nat} {cur:Array Value} {ys:List α} {W:cA} (hg:W.heap[g]?=M (O cur E.T (0,0))) (hn:ys.length=n) (hb:n≤140737488355328):OwnE E (J (M ⟨g,0,U⟩) n n) ys (W.setRow g (flat E ys).toArray):=by
 subst hn
 exact OwnE.mk (setRow_heap W g cur _ E.T (0,0) hg) (pA _) vB (by simp[flat_len]) (by rw[List.take_of_length_le (by simp[flat_len])])
theorem OwnE.setElem {xs:List α} {W:cA} {g cap i:Nat} (h:OwnE E (J (M ⟨g,0,U⟩) xs.length cap) xs W) (hi:i < xs.length) (y:α) {W':cA}
  (hW:∀ cur,W.heap[g]?=M (O cur E.T (0,0))->xs.length * E.k≤cur.size->∃ cur',W'.heap[g]?=M (O cur' E.T (0,0))/\cur'.size=cur.size/\∀ j,j < cur.size->cur'[j]?=if i * E.k≤j/\j < i * E.k+E.k then (E.f y)[j - i * E.k]? else cur[j]?) :
  OwnE E (J (M ⟨g,0,U⟩) xs.length cap) (xs.set i y) W':=by
 rcases h.cases with ⟨e,_⟩ | ⟨g2,cap2,cur,e,hg,h1,h2,h3,h4⟩
 ·simp at e
 ·simp at e
  obtain⟨rfl,rfl⟩:=e
  have hcc:xs.length * E.k≤cap * E.k:=Nat.mul_le_mul_right _ h1
  obtain⟨cur',k1,k2,k3⟩:=hW cur hg vB
  have hkk:i * E.k+E.k≤xs.length * E.k:=by rw[<- Nat.succ_mul];exact Nat.mul_le_mul_right _ hi
  have:=OwnE.mk (E:=E) (xs:=xs.set i y) (W:=W') (g:=g) (cap:=cap) (cur:=cur') k1 (by simpa using h1) h2 vB (by
   rw[List.length_set]
   refine List.ext_getElem? fun j=>?_
   have h4j:(cur.toList.take (xs.length * E.k))[j]?=(flat E xs)[j]?:=by rw[h4]
   by_cases hj:j < xs.length * E.k
   ·rw[List.getElem?_take_of_lt hj,Array.getElem?_toList] at h4j ⊢
    rw[k3 j vB]
    have hp:=E.pos
    have hq:j / E.k < xs.length:=Nat.div_lt_of_lt_mul (by rw[Nat.mul_comm];exact hj)
    have hr:j % E.k < E.k:=Nat.mod_lt _ hp
    have ej:j / E.k * E.k+j % E.k=j:=by rw[Nat.mul_comm];exact Nat.div_add_mod j E.k
    have e2:=flat_get E (xs.set i y) (j / E.k) (j % E.k) (by simpa using hq) hr
    rw[ej] at e2
    rw[e2]
    by_cases hij:j / E.k=i
    ·rw[hij] at ej
     rw[if_pos ⟨vB,vB⟩,hij]
     have:(xs.set i y).getD i E.d=y:=by simp[List.getD,hi]
     rw[this,show j - i * E.k=j % E.k by omega]
    ·have hn:¬ (i * E.k≤j/\j < i * E.k+E.k):=by
      rintro⟨a1,a2⟩
      apply hij
      rw[<- Nat.succ_mul] at a2
      exact Nat.div_eq_of_lt_le a1 a2
     rw[if_neg hn,h4j]
     have e3:=flat_get E xs (j / E.k) (j % E.k) hq hr
     rw[ej] at e3
     rw[e3]
     congr 2
     simp[List.getD,List.getElem?_set,Ne.symm hij]
   ·rw[List.getElem?_eq_none (by simp;omega),List.getElem?_eq_none (by rw[flat_len,List.length_set];omega)])
  rwa [List.length_set] at this
end
theorem get_set' {α:Type} (cur:Array α) (i j:Nat) (v:α):(cur.setIfInBounds i v)[j]?=if i=j then (if i < cur.size then M v else U) else cur[j]?:=by
 rw[Array.getElem?_setIfInBounds]
theorem bun_set {g cap i:Nat} {xs:List Bun} {W:cA} (h:OwnE bunE (J (M ⟨g,0,U⟩) xs.length cap) xs W) (hi:i < xs.length) (y:Bun) :
  OwnE bunE (J (M ⟨g,0,U⟩) xs.length cap) (xs.set i y) ((((W.setCell ⟨g,i * 4,U⟩ (V I y.count)).setCell ⟨g,i * 4+1,U⟩ (aA y.owner)).setCell ⟨g,i * 4+2,U⟩ (aA y.has)).setCell ⟨g,i * 4+3,U⟩ (V I y.data)):=by
 refine h.setElem hi y fun cur hg hs=>?_
 refine⟨_,mA (mA (mA (mA hg (i * 4) _) (i * 4+1) _) (i * 4+2) _) (i * 4+3) _,zB,fun j hj=>?_⟩
 have hk:bunE.k=4:=rfl
 rw[hk] at hs ⊢
 have hs2:i * 4+4≤cur.size:=vB
 simp only[get_set',Array.size_setIfInBounds]
 by_cases a0:j=i * 4
 ·subst a0;rw[if_neg vB,if_neg vB,if_neg vB,if_pos rfl,if_pos vB,if_pos ⟨vB,vB⟩];simp[bunE,bunC]
 ·by_cases a1:j=i * 4+1
  ·subst a1;rw[if_neg vB,if_neg vB,if_pos rfl,if_pos vB,if_pos ⟨vB,vB⟩];simp[bunE,bunC]
  ·by_cases a2:j=i * 4+2
   ·subst a2;rw[if_neg vB,if_pos rfl,if_pos vB,if_pos ⟨vB,vB⟩];simp[bunE,bunC]
   ·by_cases a3:j=i * 4+3
    ·subst a3;rw[if_pos rfl,if_pos vB,if_pos ⟨vB,vB⟩];simp[bunE,bunC]
    ·rw[if_neg vB,if_neg vB,if_neg vB,if_neg vB,if_neg vB]
theorem bun_cells {g cap i:Nat} {xs:List Bun} {W:cA} (h:OwnE bunE (J (M ⟨g,0,U⟩) xs.length cap) xs W) (hi:i < xs.length):(W.cell? ⟨g,i * 4,U⟩=M (V I (xs.getD i b0).count)/\W.cell? ⟨g,i * 4+1,U⟩=M (aA (xs.getD i b0).owner)/\W.cell? ⟨g,i * 4+2,U⟩=M (aA (xs.getD i b0).has)/\W.cell? ⟨g,i * 4+3,U⟩=M (V I (xs.getD i b0).data))/\∀ j,W.frozen? ⟨g,j,U⟩=false:=by
 obtain⟨g',cap',e,_,_,_,hc⟩:=own_some h hi
 simp at e
 obtain⟨rfl,rfl⟩:=e
 refine⟨⟨hc 0 yB,hc 1 yB,hc 2 yB,hc 3 yB⟩,fun j=>?_⟩
 rcases h.cases with ⟨e,_⟩ | ⟨g2,cap2,cur,e,hg,_⟩
 ·simp at e
 ·simp at e
  obtain⟨rfl,_⟩:=e
  exact jA hg j
end Go.Proofs.YtiebppkhaiofeaaGreat.K
namespace Go.Proofs.YtiebppkhaiofeaaGreat.K
open Go.RowKit Go.Proofs.YtiebppkhaiofeaaGreatW.PrintWords Go.Proofs.YtiebppkhaiofeaaGreat.S
open Go.ChangeMaps Go.MapKept
theorem map_eq_nil (t k e:TypeId) (b:Nat) (h:Tryz.prog.underlying t=M (.map k e)) (w:cA):(binOp .eql t (.map (M b)) (.map U)).run dA w=.ok (aA false) w:=by
 have h0:∀ d,(Go.Op.equalIn (d+1) t (.map (M b)) (.map U)).run dA w=.ok false w:=fun d=>by simp[Go.Op.equalIn,run_underlying h]
 have h1:=h0 9999
 simp only[binOp]
 simp[show Go.Op.equal t (.map (M b)) (.map U)=Go.Op.equalIn (9999+1) t (.map (M b)) (.map U) from rfl,h1]
theorem map_assert (t xT k e:TypeId) (v:Value) (h:Tryz.prog.underlying t=M (.map k e)) (w:cA):(Instr.typeAssert (.iface t v) xT t false).run dA w=.ok v w:=by
 simp[Instr.typeAssert,run_underlying h,go_sem,Result.andThen]
theorem map_laid {b:Nat} {es:Array MapEntry} {ck:Nat} (t:TypeId) {w:cA} (hb:w.heap[b]?=M (.map es ck)):(Extern.MapsClone.clone #[.iface t (.map (M b))]).run dA w=.ok (.iface t (.map (M w.heap.size))) (w.alloc (.map es ck)):=by
 have e:Extern.MapsClone.clone #[.iface t (.map (M b))]=(getObj b >>= fun o=>match o with
   | .map entries clock=>(newObj (.map entries clock) >>= fun n=>pure (.iface t (.map (M n))))
   | _=>stuck "maps.clone: a map expected"):=rfl
 rw[e]
 simp[MapKept.run_getObj_map hb,Result.andThen,go_sem]
theorem cloneMB_under:Tryz.prog.underlying 131=M (.map 3 4):=by kernel_rfl
theorem cloneMB_any {b:Nat} {es:Array MapEntry} {ck:Nat} {w:cA} (hb:w.heap[b]?=M (.map es ck)):bB dA 81 #[.map (M b)] w fun e w'=>e=.returned (.map (M w.heap.size))/\w'=w.alloc (.map es ck):=by
 have hq:=map_eq_nil 131 _ _ b cloneMB_under
 go_enter Tryz.func81,Tryz.ntmps81
 go_wp2
 rw[run_callFunc_extern Tryz.func108 xB xB xB (e:=Extern.MapsClone.clone) xB,map_laid 131 hb]
 simp only[Result.andThen]
 rw[Oper.upon_value]
 go_wp2
 rw[map_assert 131 _ _ _ _ cloneMB_under]
 simp only[Result.andThen]
 rw[Oper.upon_value]
 go_wp2
 go_ret
 exact⟨rfl,rfl⟩
theorem cloneMI_under:Tryz.prog.underlying 31=M (.map 3 3):=by kernel_rfl
theorem cloneMI_any {b:Nat} {es:Array MapEntry} {ck:Nat} {w:cA} (hb:w.heap[b]?=M (.map es ck)):bB dA 82 #[.map (M b)] w fun e w'=>e=.returned (.map (M w.heap.size))/\w'=w.alloc (.map es ck):=by
 have hq:=map_eq_nil 31 _ _ b cloneMI_under
 go_enter Tryz.func82,Tryz.ntmps82
 go_wp2
 rw[run_callFunc_extern Tryz.func108 xB xB xB (e:=Extern.MapsClone.clone) xB,map_laid 31 hb]
 simp only[Result.andThen]
 rw[Oper.upon_value]
 go_wp2
 rw[map_assert 31 _ _ _ _ cloneMI_under]
 simp only[Result.andThen]
 rw[Oper.upon_value]
 go_wp2
 go_ret
 exact⟨rfl,rfl⟩
theorem cloneMT_under:Tryz.prog.underlying 175=M (.map 3 45):=by kernel_rfl
theorem cloneMT_any {b:Nat} {es:Array MapEntry} {ck:Nat} {w:cA} (hb:w.heap[b]?=M (.map es ck)):bB dA 106 #[.map (M b)] w fun e w'=>e=.returned (.map (M w.heap.size))/\w'=w.alloc (.map es ck):=by
 have hq:=map_eq_nil 175 _ _ b cloneMT_under
 go_enter Tryz.func106,Tryz.ntmps106
 go_wp2
 rw[run_callFunc_extern Tryz.func108 xB xB xB (e:=Extern.MapsClone.clone) xB,map_laid 175 hb]
 simp only[Result.andThen]
 rw[Oper.upon_value]
 go_wp2
 rw[map_assert 175 _ _ _ _ cloneMT_under]
 simp only[Result.andThen]
 rw[Oper.upon_value]
 go_wp2
 go_ret
 exact⟨rfl,rfl⟩
theorem cloneMA_under:Tryz.prog.underlying 43=M (.map 3 55):=by kernel_rfl
theorem cloneMA_any {b:Nat} {es:Array MapEntry} {ck:Nat} {w:cA} (hb:w.heap[b]?=M (.map es ck)):bB dA 107 #[.map (M b)] w fun e w'=>e=.returned (.map (M w.heap.size))/\w'=w.alloc (.map es ck):=by
 have hq:=map_eq_nil 43 _ _ b cloneMA_under
 go_enter Tryz.func107,Tryz.ntmps107
 go_wp2
 rw[run_callFunc_extern Tryz.func108 xB xB xB (e:=Extern.MapsClone.clone) xB,map_laid 43 hb]
 simp only[Result.andThen]
 rw[Oper.upon_value]
 go_wp2
 rw[map_assert 43 _ _ _ _ cloneMA_under]
 simp only[Result.andThen]
 rw[Oper.upon_value]
 go_wp2
 go_ret
 exact⟨rfl,rfl⟩
end Go.Proofs.YtiebppkhaiofeaaGreat.K
namespace Go.Proofs.YtiebppkhaiofeaaGreat.K
open Go.RowKit Go.Proofs.YtiebppkhaiofeaaGreatW.PrintWords Go.Proofs.YtiebppkhaiofeaaGreat.S
attribute [local go_sem] World.cell?_alloc_some frz_alloc
open Go.ChangeMaps Go.MapKept
section
variable {t:Table} {b:Nat} {F F' G:Set_} {w w':cA}
theorem TabAt.keep (h:TabAt t b F w) (hk:KS G w w') (hs:∀ x,x < w.heap.size->F x->F' x/\¬ G x):TabAt t b F' w':=by
 obtain⟨ba,bo,ea,ca,eo,co,fa,fo,h1,h2,h3,h4,h5,h6,h7,h8,h9,h10,h11,h12,h13⟩:=h
 have i1:=hs b (eB h1) h9
 have i2:=hs ba (eB h2) h10
 have i3:=hs bo (eB h3) h11
 exact⟨ba,bo,ea,ca,eo,co,fa,fo,hk.at_ h1 i1.2,hk.at_ h2 i2.2,hk.at_ h3 i3.2,h4,h5,h6,h7,h8,i1.1,i2.1,i3.1,h12,h13⟩
theorem TabAt.lt (h:TabAt t b F w):b < w.heap.size:=by obtain⟨_,_,_,_,_,_,_,_,h1,_⟩:=h;exact eB h1
theorem TabAt.mem (h:TabAt t b F w):F b:=by obtain⟨_,_,_,_,_,_,_,_,h1,h2,h3,h4,h5,h6,h7,h8,h9,_⟩:=h;exact h9
end
theorem under43:Tryz.prog.underlying 43=M (.map 3 55):=by kernel_rfl
theorem under31:Tryz.prog.underlying 31=M (.map 3 3):=by kernel_rfl
theorem under3:Tryz.prog.underlying 3=M (.int .i64):=by kernel_rfl
theorem zero55 (w:cA):(zeroValue 55).run dA w=.ok (actV act0) w:=by
 obtain⟨i0,hi,hz0,hz1,hz2⟩:=info_parts info55
 simp[zeroValue,typeInfo,hi,hz0,actV,act0]
theorem zero3 (w:cA):(zeroValue 3).run dA w=.ok (V I 0) w:=by
 obtain⟨i0,hi,hz0,hz1,hz2⟩:=info_parts info3
 simp[zeroValue,typeInfo,hi,hz0]
def TabP (v:Value) (t:Table) (b:Nat) (F:Set_) (w:cA) (e:Ending) (w':cA):Prop:=e=.returned v/\TabAt t b (gr F w) w'/\KS F w w'
theorem field55 (a b c:Int) (w:cA):(Instr.field 55 (.agg #[V I a,V I b,V I c]) 2).run dA w=.ok (V I c) w:=by kernel_rfl
attribute [local go_sem] field55
theorem bdrewN {w W:cA} (h:Below w.heap.size w W) (n:Nat):Below w.heap.size w (W.drewN n):=⟨h.os,h.tape,h.output,h.size,h.block⟩
theorem map_drewN {w:cA} {b:Nat} {es:Array MapEntry} {ck:Nat} (h:w.heap[b]?=M (.map es ck)) (n:Nat):(w.drewN n).heap[b]?=M (.map es ck):=h
theorem map_alloc {w:cA} {b:Nat} {es:Array MapEntry} {ck:Nat} (h:w.heap[b]?=M (.map es ck)) (o:Obj):(w.alloc o).heap[b]?=M (.map es ck):=lA h o
def Table.actOf (t:Table) (k:Int):S.Act:=(t.act k).getD act0
theorem seqOf_eq (t:Table) (k:Int):t.seqOf k=(Table.actOf t k).seq:=by unfold Table.seqOf Table.actOf;cases t.act k <;> rfl
theorem getD_act {f:Int->Option Value} {t:Table} (h:∀ k,f k=(t.act k).map actV) (k:Int):(f k).getD (actV act0)=actV (Table.actOf t k):=by
 rw[h k];unfold Table.actOf;cases t.act k <;> rfl
theorem tabNew_any (w:cA):bB dA 49 #[] w fun e w'=>∃ b,e=.returned (bA (M ⟨b,0,U⟩))/\TabAt Table.new b (nw w) w'/\Below w.heap.size w w':=by
 have m1:=fun w:cA=>run_makeMap (P:=dA) 43 w
 have m2:=fun w:cA=>run_makeMap (P:=dA) 31 w
 go_enter Tryz.func49,Tryz.ntmps49
 go_wp2
 go_ret
 refine⟨_,rfl,⟨w.heap.size,w.heap.size+1,#[],0,#[],0,_,_,?_,?_,?_,IM.empty,IM.empty,by simp;omega,zB,vB,?_,?_,?_,fun k=>rfl,fun k=>rfl⟩,?_⟩
 ·have:=nA ((w.alloc (.map #[] 0)).alloc (.map #[] 0)) (O #[.map (M w.heap.size),.map (M (w.heap.size+1))] 179);simpa using this
 ·exact lA (lA (heap_alloc w _).1 _) _
 ·have:=(heap_alloc (w.alloc (.map #[] 0)) (.map #[] 0)).1;exact lA (by simpa using this) _
 ·show w.heap.size≤w.heap.size+1+1;omega
 ·exact pA _
 ·show w.heap.size≤_;omega
 ·exact eA (eA (eA (fA _ _) _) _) _
theorem tabActive_any {t:Table} {b:Nat} {F:Set_} {w:cA} (hT:TabAt t b F w) (k:Int):bB dA 150 #[bA (M ⟨b,0,U⟩),V I k] w (RV (.tuple #[actV (Table.actOf t k),aA (t.act k).isSome]) w):=by
 obtain⟨ba,bo,ea,ca,eo,co,fa,fo,h1,h2,h3,h4,h5,h6,h7,h8,h9,h10,h11,h12,h13⟩:=hT
 have c0:=cw h1 0 (v:=.map (M ba))
 have c1:=cw h1 1 (v:=.map (M bo))
 have hl:=h4.look2 (map_alloc h2 (O #[V I 0,V I 0,V I 0] 55)) under43 under3 (zero55 _) k
 have hs:(fa k).isSome=(t.act k).isSome:=by rw[h12 k];cases t.act k <;> rfl
 rw[getD_act h12 k,hs] at hl
 clear h1 h2 h3 h4 h5 h6 h7 h8 h9 h10 h11 h12 h13 hs
 simp only[actV] at hl ⊢
 go_enter Tryz.func150,Tryz.ntmps150
 go_wp2_with fail
 exact yA (v:=.tuple #[actV (Table.actOf t k),aA (t.act k).isSome]) (by simp[results,Tryz.results150,go_sem,actV]) rfl ⟨rfl,by repeat (first | with_reducible exact fA _ _ | with_reducible apply eA | with_reducible refine oA ?_ (by dsimp only;omega) _)⟩
theorem tabActivate_any {t:Table} {b:Nat} {F:Set_} {w:cA} (hT:TabAt t b F w) (a:S.Act):bB dA 136 #[bA (M ⟨b,0,U⟩),actV a] w (TabP (aA (t.activate a).2) (t.activate a).1 b F w):=by
 have T:=AS hT
 have hbl:=hT.lt
 obtain⟨ba,bo,ea,ca,eo,co,fa,fo,h1,h2,h3,h4,h5,h6,h7,h8,h9,h10,h11,h12,h13⟩:=hT
 have c0:=cw h1 0 (v:=.map (M ba))
 have c1:=cw h1 1 (v:=.map (M bo))
 obtain⟨ab,an,aq⟩:=a
 have BX:=AS (fA w.heap.size w)
 have hlo:=fun n=>h5.look (map_drewN (map_alloc h3 (O #[V I ab,V I an,V I aq] 55)) n) under31 under3 (zero3 _) ab
 have hla:=fun n=>h4.look (map_drewN (map_alloc h2 (O #[V I ab,V I an,V I aq] 55)) n) under43 under3 (zero55 _) ab
 simp only[h13 ab] at hlo
 simp only[getD_act h12 ab] at hla
 have KP:=AS (show ∀ n,TabAt t b (gr F w) ((w.alloc (O #[V I ab,V I an,V I aq] 55)).drewN n)/\KS F w ((w.alloc (O #[V I ab,V I an,V I aq] 55)).drewN n) from fun n=>⟨T.out.keep (pB (fun _=>False) (bdrewN (eA (fA _ _) _) n)) (fun x _ h=>⟨.inl h,id⟩),pB _ (bdrewN (eA (fA _ _) _) n)⟩)
 have hq:=AS (seqOf_eq t ab)
 clear T BX
 simp only[actV] at hla ⊢
 by_cases q1:aq < 1
 ·rw[show t.activate ⟨ab,an,aq⟩=(t,false) from if_pos (.inl q1)]
  have H:=AS (qA h1 h2)
  clear h1 h2 h3 h4 h5 h6 h7 h8 h9 h10 h11 h12 h13
  go_enter Tryz.func136,Tryz.ntmps136
  go_wp2_with fail
  go_quiet (fail)
  go_wp2
  go_ret
  exact⟨rfl,KP.out nq⟩
 ·have d1:decide (aq < 1)=false:=by simpa using q1
  by_cases q2:aq≤t.over ab
  ·rw[show t.activate ⟨ab,an,aq⟩=(t,false) from if_pos (.inr (.inl q2))]
   clear h1 h2 h3 h4 h5 h6 h7 h8 h9 h10 h11 h12 h13
   go_enter Tryz.func136,Tryz.ntmps136
   go_wp2_with fail
   go_quiet (fail)
   go_wp2
   go_ret
   exact⟨rfl,KP.out nq⟩
  ·have d2:decide (aq≤t.over ab)=false:=by simpa using q2
   by_cases q3:aq≤(Table.actOf t ab).seq
   ·rw[show t.activate ⟨ab,an,aq⟩=(t,false) from if_pos (.inr (.inr (by rw[hq.out];exact q3)))]
    clear h1 h2 h3 h4 h5 h6 h7 h8 h9 h10 h11 h12 h13
    go_enter Tryz.func136,Tryz.ntmps136
    go_wp2_with fail
    go_quiet (fail)
    go_wp2
    go_ret
    exact⟨rfl,KP.out nq⟩
   ·have d3:decide (aq≤(Table.actOf t ab).seq)=false:=by simpa using q3
    rw[show t.activate ⟨ab,an,aq⟩=({ t with act:=upd t.act ab (M ⟨ab,an,aq⟩)},true) from if_neg (by show ¬ (aq < 1∨aq≤t.over ab∨aq≤t.seqOf ab);rw[hq.out];omega)]
    have B1:=AS h1
    have B2:=AS h2
    have B3:=AS h3
    have M4:=AS h4
    have M5:=AS h5
    have R:=AS (qA h6 (qA h7 (qA h8 (qA h9 (qA h10 (qA h11 (qA h12 h13)))))))
    clear h1 h2 h3 h4 h5 h6 h7 h8 h9 h10 h11 h12 h13
    go_enter Tryz.func136,Tryz.ntmps136
    go_wp2_with fail
    go_quiet (fail)
    have Q0:=AS (bdrewN (eA (fA _ w) (O #[V I ab,V I an,V I aq] 55)) nq)
    have Q1:=AS (kA B1.out Q0.out)
    have Q2:=AS (kA B2.out Q0.out)
    have Q3:=AS (kA B3.out Q0.out)
    have Q4:=AS (show((w.alloc (O #[V I ab,V I an,V I aq] 55)).drewN nq).heap[w.heap.size]?=_ from nA w (O #[V I ab,V I an,V I aq] 55))
    generalize (w.alloc (O #[V I ab,V I an,V I aq] 55)).drewN nq=W at Q0 Q1 Q2 Q3 Q4 ⊢
    clear c0 c1 hlo hla KP
    have c0:=cw Q1.out 0 (v:=.map (M ba))
    have e0:=cw Q4.out 0 (v:=V I ab)
    have e1:=cw Q4.out 1 (v:=V I an)
    have e2:=cw Q4.out 2 (v:=V I aq)
    obtain⟨es',ck',hrun,him⟩:=M4.out.put (w:=W.drew) Q2.out under43 under3 ab (.agg #[V I ab,V I an,V I aq])
    have IM':=AS him
    clear him
    go_upto_region 3 with fail
    go_region
    all_goals
     go_wp2
     go_ret
     refine⟨rfl,⟨ba,bo,es',ck',eo,co,fput fa ab (actV ⟨ab,an,aq⟩),fo,?_,?_,?_,IM'.out,M5.out,R.out.1,R.out.2.1,R.out.2.2.1,.inl R.out.2.2.2.1,.inl R.out.2.2.2.2.1,.inl R.out.2.2.2.2.2.1,?_,R.out.2.2.2.2.2.2.2⟩,?_⟩
     ·exact(set_far (w:=W.drew) Q2.out _ R.out.1).trans Q1.out
     ·exact set_at (w:=W.drew) Q2.out _
     ·exact(set_far (w:=W.drew) Q2.out _ (Ne.symm R.out.2.2.1)).trans Q3.out
     ·intro k
      by_cases hk:k=ab
      ·subst hk;simp[fput,upd]
      ·simp[fput,upd,hk,R.out.2.2.2.2.2.2.1 k]
     ·exact KS.block (W:=W.drew) (sB (pB F Q0.out)) (.inl R.out.2.2.2.2.1) _
theorem tabDeactivate_any {t:Table} {b:Nat} {F:Set_} {w:cA} (hT:TabAt t b F w) (k s:Int):bB dA 137 #[bA (M ⟨b,0,U⟩),V I k,V I s] w (TabP (.tuple #[]) (t.deactivate k s) b F w):=by
 obtain⟨ba,bo,ea,ca,eo,co,fa,fo,h1,h2,h3,h4,h5,h6,h7,h8,h9,h10,h11,h12,h13⟩:=hT
 have c0:=cw h1 0 (v:=.map (M ba))
 have c1:=cw h1 1 (v:=.map (M bo))
 have R:=AS (qA h6 (qA h7 (qA h8 (qA h9 (qA h10 (qA h11 (qA h12 h13)))))))
 have hlo:=h5.look (w:=w.drew) h3 under31 under3 (zero3 _) k
 rw[h13 k] at hlo
 have hla:=h4.look2 (w:=w.drew) h2 under43 under3 (zero55 _) k
 have hs:(fa k).isSome=(t.act k).isSome:=by rw[h12 k];cases t.act k <;> rfl
 obtain⟨es',ck',hrun,him⟩:=h5.put (w:=w.drew) h3 under31 under3 k (V I (max (t.over k) s))
 have hla2:=h4.look2 (w:=aB w.drew bo (.map es' ck')) ((set_far (w:=w.drew) h3 _ h8).trans h2) under43 under3 (zero55 _) k
 rw[getD_act h12 k,hs] at hla2
 have B1:=AS h1
 have B2:=AS h2
 have B3:=AS h3
 have M4:=AS h4
 have M5:=AS him
 have hm:(t.over k < s/\max (t.over k) s=s)∨(¬ t.over k < s/\max (t.over k) s=t.over k):=vB
 have W1:=AS (set_at (w:=w.drew) h3 (.map es' ck'))
 have W2:=AS ((set_far (w:=w.drew) h3 (.map es' ck') h7).trans h1)
 have W3:=AS ((set_far (w:=w.drew) h3 (.map es' ck') h8).trans h2)
 have WK:=AS (KS.block (F:=F) (W:=w.drew) (sB (qB F w)) (.inl h11) (.map es' ck'))
 clear h1 h2 h3 h4 h5 h6 h7 h8 h9 h10 h11 h12 h13 hs hla him
 go_enter Tryz.func137,Tryz.ntmps137
 go_upto_region 0 with fail
 go_cut [21] (fun v21 wx=>wx=aB w.drew bo (.map es' ck'))
 case first =>
  rcases hm with ⟨hm1,hm⟩ | ⟨hm1,hm⟩
  all_goals
   rw[hm] at hrun
   go_region
   all_goals
    go_wp2_with fail
    go_meet
    exact rfl
 case rest =>
  clear c0 c1 hlo hrun hm
  rw[<- hcut] at hla2
  have V1:=AS (show wc.heap[bo]?=M (.map es' ck') by rw[hcut];exact W1.out)
  have V2:=AS (show wc.heap[b]?=M (O #[.map (M ba),.map (M bo)] 179 (0,0)) by rw[hcut];exact W2.out)
  have V3:=AS (show wc.heap[ba]?=M (.map ea ca) by rw[hcut];exact W3.out)
  have VK:=AS (show KS F w wc by rw[hcut];exact WK.out)
  clear hcut W1 W2 W3 WK B1 B2 B3
  have c0:=cw V2.out 0 (v:=.map (M ba))
  have FIN:=AS (show ∀ o,TabAt ⟨t.act,upd t.over k (max (t.over k) s)⟩ b (gr F w) (wc.alloc o)/\KS F w (wc.alloc o) from fun o=>by
   refine⟨⟨ba,bo,ea,ca,es',ck',fa,_,lA V2.out _,map_alloc V3.out _,map_alloc V1.out _,M4.out,M5.out,R.out.1,R.out.2.1,R.out.2.2.1,.inl R.out.2.2.2.1,.inl R.out.2.2.2.2.1,.inl R.out.2.2.2.2.2.1,R.out.2.2.2.2.2.2.1,?_⟩,VK.out.alloc _⟩
   intro j
   by_cases hj:j=k
   ·subst hj;simp[fput,upd]
   ·simp[fput,upd,hj,R.out.2.2.2.2.2.2.2 j])
  cases hact:t.act k with
  | none =>
   rw[hact] at hla2
   rw[show Table.actOf t k=act0 by simp[Table.actOf,hact]] at hla2
   simp only[actV,act0,Option.isSome_none] at hla2
   have HA:=AS hact
   clear hact
   go_wp2
   have hd:t.deactivate k s=⟨t.act,upd t.over k (max (t.over k) s)⟩:=by simp[Table.deactivate,HA.out]
   rw[hd]
   go_end0
   exact⟨rfl,FIN.out _⟩
  | some a =>
   obtain⟨a1,a2,a3⟩:=a
   rw[hact] at hla2
   rw[show Table.actOf t k=⟨a1,a2,a3⟩ by simp[Table.actOf,hact]] at hla2
   simp only[actV,Option.isSome_some] at hla2
   have HA:=AS hact
   clear hact
   by_cases hs:a3≤s
   ·obtain⟨ed,hdel,hid⟩:=M4.out.del (w:=wc.alloc (O #[V I a1,V I a2,V I a3] 55)) (map_alloc V3.out _) under43 under3 k 3 0
    have ID:=AS hid
    clear hid
    go_wp2
    rw[show t.deactivate k s=⟨upd t.act k U,upd t.over k (max (t.over k) s)⟩ by simp[Table.deactivate,HA.out,hs]]
    go_end0
    have N3:=map_alloc V3.out (O #[V I a1,V I a2,V I a3] 55)
    refine⟨rfl,⟨ba,bo,ed,ca,es',ck',fdel fa k,fput fo k (V I (max (t.over k) s)),(set_far N3 _ R.out.1).trans (lA V2.out _),set_at N3 _,(set_far N3 _ (Ne.symm R.out.2.2.1)).trans (map_alloc V1.out _),ID.out,M5.out,R.out.1,R.out.2.1,R.out.2.2.1,.inl R.out.2.2.2.1,.inl R.out.2.2.2.2.1,.inl R.out.2.2.2.2.2.1,?_,?_⟩,(VK.out.alloc _).block (.inl R.out.2.2.2.2.1) _⟩
    ·intro j
     by_cases hj:j=k
     ·subst hj;simp[fdel,upd]
     ·simp[fdel,upd,hj,R.out.2.2.2.2.2.2.1 j]
    ·intro j
     by_cases hj:j=k
     ·subst hj;simp[fput,upd]
     ·simp[fput,upd,hj,R.out.2.2.2.2.2.2.2 j]
   ·go_wp2
    rw[show t.deactivate k s=⟨t.act,upd t.over k (max (t.over k) s)⟩ by simp[Table.deactivate,HA.out];intro;omega]
    go_end0
    exact⟨rfl,FIN.out _⟩
theorem tabCopy_any {t:Table} {b:Nat} {F:Set_} {w:cA} (hT:TabAt t b F w):bB dA 79 #[bA (M ⟨b,0,U⟩)] w fun e w'=>∃ b',e=.returned (bA (M ⟨b',0,U⟩))/\TabAt t b' (nw w) w'/\Below w.heap.size w w':=by
 obtain⟨ba,bo,ea,ca,eo,co,fa,fo,h1,h2,h3,h4,h5,h6,h7,h8,h9,h10,h11,h12,h13⟩:=hT
 have c0:=cw h1 0 (v:=.map (M ba))
 have c1:=cw h1 1 (v:=.map (M bo))
 have B1:=AS h1
 have B2:=AS h2
 have B3:=AS h3
 have R:=AS (qA h4 (qA h5 (qA h12 h13)))
 have FIN:=AS (show ∀ p q n:Nat,∀ W:cA,W.heap.size=n->Below w.heap.size w W->W.heap[p]?=M (.map ea ca)->W.heap[q]?=M (.map eo co)->w.heap.size≤p->w.heap.size≤q->p≠q->TabAt t n (nw w) (W.alloc (O #[.map (M p),.map (M q)] 179))/\Below w.heap.size w (W.alloc (O #[.map (M p),.map (M q)] 179)) from by
  intro p q n W hn hb hp hq h1 h2 hne
  subst hn
  have:=eB hp
  have:=eB hq
  exact⟨⟨p,q,ea,ca,eo,co,fa,fo,nA W _,map_alloc hp _,map_alloc hq _,h4,h5,vB,vB,hne,hb.size,h1,h2,h12,h13⟩,eA hb _⟩)
 clear h1 h2 h3 h4 h5 h6 h7 h8 h9 h10 h11 h12 h13
 go_enter Tryz.func79,Tryz.ntmps79
 go_wp2_with fail
 go_region_with (first | (go_at_call 107;refine(cloneMA_any (by first | exact(B2.out:w.drew.heap[ba]?=_) | exact map_alloc (w:=w.drew) B2.out _)).mono ?_;rintro e w1 ⟨rfl,rfl⟩) | (go_at_call 82;refine(cloneMI_any (by first | exact(B3.out:w.drew.heap[bo]?=_) | exact map_alloc (w:=w.drew) B3.out _)).mono ?_;rintro e w1 ⟨rfl,rfl⟩))
 all_goals
  go_wp2
  go_ret
  first
   | exact⟨_,rfl,FIN.out w.heap.size (w.heap.size+1) _ ((w.drew.alloc (.map ea ca)).alloc (.map eo co)) (by rw[rA,rA];rfl) (eA (eA (iA (fA _ _)) _) _) (map_alloc (heap_alloc w.drew _).1 _) (by have:=(heap_alloc (w.drew.alloc (.map ea ca)) (.map eo co)).1;rw[rA] at this;exact this) (pA _) vB vB⟩
   | exact⟨_,rfl,FIN.out (w.heap.size+1) w.heap.size _ ((w.drew.alloc (.map eo co)).alloc (.map ea ca)) (by rw[rA,rA];rfl) (eA (eA (iA (fA _ _)) _) _) (by have:=(heap_alloc (w.drew.alloc (.map eo co)) (.map ea ca)).1;rw[rA] at this;exact this) (map_alloc (heap_alloc w.drew _).1 _) vB (pA _) vB⟩
end Go.Proofs.YtiebppkhaiofeaaGreat.K
namespace Go.Proofs.YtiebppkhaiofeaaGreat.K
open Go.RowKit Go.Proofs.YtiebppkhaiofeaaGreatW.PrintWords Go.Proofs.YtiebppkhaiofeaaGreat.S
attribute [local go_sem] World.cell?_alloc_some
open Go.ChangeMaps Go.MapKept
def RD (v:Value) (w:cA) (e:Ending) (w':cA):Prop:=e=.returned v/\∃ m,w'=w.drewN m
theorem RD.of {v v':Value} {w:cA} (h:v=v') (m:Nat):RD v' w (.returned v) (w.drewN m):=⟨by rw[h],m,rfl⟩
def idxI (xs:List Int) (x:Int):Int:=if x∈xs then (xs.idxOf x:Int) else -1
theorem idxI_at {xs:List Int} {x:Int} {i:Nat} (hi:i < xs.length) (h:xs.getD i 0=x) (hn:∀ j,j < i->xs.getD j 0≠x):idxI xs x=i:=by
 have hx:xs[i]=x:=by simpa [List.getD,hi] using h
 have hm:x∈xs:=by rw[<- hx];exact List.getElem_mem hi
 unfold idxI
 rw[if_pos hm]
 have h1:xs.idxOf x < xs.length:=List.idxOf_lt_length_of_mem hm
 have h2:xs[xs.idxOf x]=x:=List.getElem_idxOf h1
 have h3:¬ xs.idxOf x < i:=fun h=>hn _ h (by simp[List.getD,h1,h2])
 have h4:¬ i < xs.idxOf x:=fun h=>by
  have:=List.not_of_lt_findIdx (p:=(· == x)) (xs:=xs) h
  simp[hx] at this
 omega
theorem idxI_none {xs:List Int} {x:Int} (hn:∀ j,j < xs.length->xs.getD j 0≠x):idxI xs x = -1:=by
 unfold idxI
 rw[if_neg]
 intro hm
 obtain⟨j,hj,e⟩:=List.getElem_of_mem hm
 exact hn j hj (by simpa [List.getD,hj] using e)
theorem idxI_nat {xs:List Int} {x:Int}:(0≤idxI xs x)↔x∈xs:=by
 unfold idxI;split <;> simp_all <;> omega
theorem int_cells {g cap:Nat} {xs:List Int} {W:cA} (h:OwnE intE (J (M ⟨g,0,U⟩) xs.length cap) xs W) {i:Nat} (hi:i < xs.length):W.cell? ⟨g,i,U⟩=M (V I (xs.getD i 0)):=by
 obtain⟨g',cap',e,_,_,_,hc⟩:=own_some h hi
 simp at e
 obtain⟨rfl,rfl⟩:=e
 have:=hc 0 yB
 simpa [intE] using this
theorem index_any {v:Value} {xs:List Int} {w:cA} (hO:OwnE intE v xs w) (x:Int):bB dA 177 #[v,V I x] w (RQ (V I (idxI xs x)) w):=by
 rcases hO.cases with ⟨rfl,rfl⟩ | ⟨g,cap,cur,rfl,hg,hnc,hm,-⟩
 ·rw[show idxI [] x = -1 from rfl]
  go_enter Tryz.func177,Tryz.ntmps177
  go_wp2
  go_loop [8,5] (fun v8 v5=>v8=V I 0) (fun _ _=>0)
  case atStart=>rfl
  case round =>
   obtain rfl:=hrel
   go_wp2
   go_ret
   exact RQ.of rfl
 ·have O_:=AS hO
  have hlen:xs.length≤9223372036854775807:=vB
  generalize hr:idxI xs x=r
  have HR:=AS hr
  clear hO hg hr
  go_enter Tryz.func177,Tryz.ntmps177
  go_wp2
  go_loop [8,5] (fun v8 v5=>∃ i:Nat,v8=V I i/\i≤xs.length/\Aside0 (∀ j,j < i->xs.getD j 0≠x)) (fun v8 _=>xs.length+1 - (intOf v8).toNat)
  case atStart=>exact⟨0,rfl,vB,⟨fun j hj=>absurd hj vB⟩⟩
  case round =>
   obtain⟨i,rfl,hi,R⟩:=hrel
   by_cases c1:i < xs.length
   ·have q1:(i:Int) < (xs.length:Int):=vB
    have q0:(0:Int)≤(i:Int):=vB
    have e0:=int_cells O_.out c1
    generalize hy:xs.getD i 0=y at e0
    have HY:=AS hy
    clear hy
    by_cases hxy:x=y
    ·have hb:(x == y)=true:=by simp[hxy]
     have HX:=AS hxy
     clear hxy
     go_wp2
     go_ret
     exact RQ.of (by show Value.int .i64 (i:Int)=_;rw[<- HR.out,idxI_at c1 (HY.out.trans HX.out.symm) R.out])
    ·have hb:(x == y)=false:=by simp[hxy]
     have HX:=AS hxy
     clear hxy
     go_wp2
     go_round
     case rel =>
      refine⟨i+1,by go_num,vB,⟨fun j hj=>?_⟩⟩
      by_cases hji:j=i
      ·subst hji;rw[HY.out];exact fun h=>HX.out h.symm
      ·exact R.out j vB
     case measure=>simp[intOf];omega
   ·have hin:i=xs.length:=vB
    subst hin
    go_wp2
    go_ret
    exact RQ.of (by show Value.int .i64 (-1)=_;rw[<- HR.out,idxI_none R.out])
theorem contains_any {v:Value} {xs:List Int} {w:cA} (hO:OwnE intE v xs w) (x:Int):bB dA 164 #[v,V I x] w (RQ (aA (xs.contains x)) w):=by
 obtain⟨A,c,rfl,-,-,hm,-⟩:=hO.row
 have HI:=AS (index_any hO x)
 generalize hr:xs.contains x=r
 have HR:=AS (show decide (0≤idxI xs x)=r by rw[<- hr];simp[idxI_nat])
 clear hO hr
 go_enter Tryz.func164,Tryz.ntmps164
 go_wp2_with fail
 refine HI.out.mono ?_
 rintro e w1 ⟨rfl,rfl⟩
 have hh:=HR.out
 generalize idxI xs x=ix at *
 go_wp2
 go_ret
 exact RQ.of (by first | rfl | (rw[<- HR.out];simp))
theorem LinAt.keep {c:Cfg} {rows:Int->List Int} {b:Nat} {F F' G:Set_} {w w':cA} (h:LinAt c rows b F w) (hk:KS G w w') (hs:∀ x,x < w.heap.size->F x->F' x/\¬ G x):LinAt c rows b F' w':=by
 obtain⟨K,bm,es,ck,f,h1,h2,h3,h4,h5,h6,h7,h8,h9,h10⟩:=h
 have hF:∀ x,-2≤K x->x < w.heap.size->F' x/\¬ G x:=fun x hx hl=>hs x hl (h9 x hx)
 refine⟨fun x=>if x < w.heap.size then K x else -3,bm,es,ck,f,hk.at_ h1 (hF b vB (eB h1)).2,hk.at_ h2 (hF bm vB (eB h2)).2,h3,?_,?_,?_,h7,h8,?_,h10⟩
 ·show(if b < w.heap.size then K b else -3) = -1;rw[if_pos (eB h1)];exact h4
 ·show(if bm < w.heap.size then K bm else -3) = -2;rw[if_pos (eB h2)];exact h5
 ·intro k v hf
  obtain⟨k0,ho,hx⟩:=h6 k v hf
  refine⟨k0,ho.ks hk (fun x hx'=>(hF x (by rw[hx x hx'];omega) (ho.lt x hx')).2),fun x hx'=>?_⟩
  show(if x < w.heap.size then K x else -3)=k;rw[if_pos (ho.lt x hx')];exact hx x hx'
 ·intro x hx
  simp only at hx
  by_cases hl:x < w.heap.size
  ·rw[if_pos hl] at hx;exact(hF x hx hl).1
  ·rw[if_neg hl] at hx;omega
theorem LinAt.lt {c:Cfg} {rows:Int->List Int} {b:Nat} {F:Set_} {w:cA} (h:LinAt c rows b F w):b < w.heap.size:=by obtain⟨K,bm,es,ck,f,h1,_⟩:=h;exact eB h1
theorem LinAt.mem {c:Cfg} {rows:Int->List Int} {b:Nat} {F:Set_} {w:cA} (h:LinAt c rows b F w):F b:=by obtain⟨K,bm,es,ck,f,h1,h2,h3,h4,h5,h6,h7,h8,h9,h10⟩:=h;exact h9 b vB
theorem under209:Tryz.prog.underlying 209=M (.map 3 57):=by kernel_rfl
theorem zero57 (w:cA):(zeroValue 57).run dA w=.ok (J U 0 0) w:=by kernel_rfl
theorem linSet_any {b bm:Nat} {s ws:Int} {w:cA} (hB:w.heap[b]?=M (O #[V I s,V I ws,.map (M bm)] 211 (0,0))) (h1:1≤s) (h2:s≤64) (k:Int):bB dA 165 #[bA (M ⟨b,0,U⟩),V I k] w (RQ (V I (imod k s)) w):=by
 have c0:=cw hB 0 (v:=V I s)
 clear hB
 go_enter Tryz.func165,Tryz.ntmps165
 go_wp2_with fail
 refine(mod_any _ _ _ h1 h2).mono ?_
 rintro e w1 ⟨rfl,rfl⟩
 go_wp2
 go_ret
 exact RQ.of rfl
def lrow (f:Int->Option Value) (k:Int):Value:=(f k).getD (J U 0 0)
theorem linRow_any {b bm:Nat} {s ws:Int} {es:Array MapEntry} {ck:Nat} {f:Int->Option Value} {w:cA} (hB:w.heap[b]?=M (O #[V I s,V I ws,.map (M bm)] 211 (0,0))) (hM:w.heap[bm]?=M (.map es ck)) (hI:IM es ck f) (h1:1≤s) (h2:s≤64) (k:Int) {A:Option Addr} {n cp:Nat} (hv:lrow f (imod k s)=J A n cp):bB dA 163 #[bA (M ⟨b,0,U⟩),V I k] w (RD (J A n cp) w):=by
 have c2:=cw hB 2 (v:=.map (M bm))
 have hl:∀ n,(Instr.lookup 209 (.map (M bm)) (V I (imod k s)) false).run dA (w.drewN n)=.ok (lrow f (imod k s)) (w.drewN n):=fun n=>hI.look (map_drewN hM n) under209 under3 (zero57 _) _
 rw[hv] at hl
 have HS:=AS (show ∀ n,bB dA 165 #[bA (M ⟨b,0,U⟩),V I k] (w.drewN n) (fun e w'=>e=.returned (V I (imod k s))/\w'=w.drewN n) from fun n=>(linSet_any (w:=w.drewN n) hB h1 h2 k).mono fun _ _ h=>⟨h.1,h.2.symm⟩)
 generalize imod k s=ks at *
 clear hB hM hI hv
 go_enter Tryz.func163,Tryz.ntmps163
 go_wp2_with fail
 go_quiet ((go_at_call 165;exact Calls.quiet_of_same (HS.out _)))
 go_wp2
 go_ret
 exact RD.of rfl nq
theorem LinAt.rowV {c:Cfg} {rows:Int->List Int} {b:Nat} {F:Set_} {w:cA} (h:LinAt c rows b F w) (k:Int):∃ A cp,OwnE intE (J A (rows (imod k c.sets)).length cp) (rows (imod k c.sets)) w/\(rows (imod k c.sets)).length≤16/\∀ m,bB dA 163 #[bA (M ⟨b,0,U⟩),V I k] (w.drewN m) (RD (J A (rows (imod k c.sets)).length cp) (w.drewN m)):=by
 obtain⟨K,bm,es,ck,f,h1,h2,h3,h4,h5,h6,h7,h8,h9,hs1,hs2,hs3,hs4⟩:=h
 have hv:∃ A cp,lrow f (imod k c.sets)=J A (rows (imod k c.sets)).length cp/\OwnE intE (J A (rows (imod k c.sets)).length cp) (rows (imod k c.sets)) w:=by
  unfold lrow
  cases hf:f (imod k c.sets) with
  | none=>rw[h7 _ hf];exact⟨U,0,rfl,OwnE.nil _⟩
  | some v =>
   obtain⟨k0,ho,-⟩:=h6 _ _ hf
   obtain⟨A,cp,rfl,-⟩:=ho.row
   exact⟨A,cp,rfl,ho⟩
 obtain⟨A,cp,hv,ho⟩:=hv
 exact⟨A,cp,ho,h8 _,fun m=>linRow_any (w:=w.drewN m) h1 h2 h3 hs1 hs2 k hv⟩
theorem linHas_any {c:Cfg} {rows:Int->List Int} {b:Nat} {F:Set_} {w:cA} (hL:LinAt c rows b F w) (k:Int):bB dA 152 #[bA (M ⟨b,0,U⟩),V I k] w (RD (aA ((rows (imod k c.sets)).contains k)) w):=by
 obtain⟨A,cp,ho,-,hr⟩:=hL.rowV k
 generalize rows (imod k c.sets)=xs at *
 have H0:=AS (hr 0)
 have O_:=AS (show ∀ m,OwnE intE (J A xs.length cp) xs (w.drewN m) from fun m=>ho.at_ (fun _ _=>rfl))
 clear hr ho hL
 generalize hq:xs.contains k=q
 have HQ:=AS hq
 clear hq
 go_enter Tryz.func152,Tryz.ntmps152
 go_wp2_with fail
 refine(H0.out:bB _ _ _ w _).mono ?_
 rintro e w1 ⟨rfl,m,rfl⟩
 go_wp2_with fail
 refine(contains_any (O_.out m) k).mono ?_
 rintro e w1 ⟨rfl,rfl⟩
 rw[HQ.out]
 go_wp2
 go_ret
 exact RD.of rfl m
def vicOf (c:Cfg) (rows:Int->List Int) (b pinned:Int):Int×Bool:=Cache.victim c ⟨rows,fun _=>b0⟩ b pinned
theorem linVictim_any {c:Cfg} {rows:Int->List Int} {b:Nat} {F:Set_} {w:cA} (hL:LinAt c rows b F w) (k p:Int):bB dA 151 #[bA (M ⟨b,0,U⟩),V I k,V I p] w (RD (.tuple #[V I (vicOf c rows k p).1,aA (vicOf c rows k p).2]) w):=by
 obtain⟨A,cp,ho,hlen,hr⟩:=hL.rowV k
 have HH:=AS (show ∀ m,bB dA 152 #[bA (M ⟨b,0,U⟩),V I k] (w.drewN m) (RD (aA ((rows (imod k c.sets)).contains k)) (w.drewN m)) from fun m=>linHas_any (F:=F) (hL.keep (KS.drewN (qB (fun _=>False) w) m) (fun x _ h=>⟨h,id⟩)) k)
 have hwa:∃ bm,w.heap[b]?=M (O #[V I c.sets,V I c.ways,.map (M bm)] 211 (0,0)):=by obtain⟨K,bm,es,ck,f,h1,_⟩:=hL;exact⟨bm,h1⟩
 obtain⟨bm,hB⟩:=hwa
 have hw1:1≤c.ways:=by obtain⟨K,bm,es,ck,f,h1,h2,h3,h4,h5,h6,h7,h8,h9,hs1,hs2,hs3,hs4⟩:=hL;exact hs3
 have c1:=cw hB 1 (v:=V I c.ways)
 have hvic:vicOf c rows k p=if k < 0 then (-1,false) else if (rows (imod k c.sets)).contains k=true∨((rows (imod k c.sets)).length:Int) < c.ways then (-1,true) else match (rows (imod k c.sets)).find? (fun x=>x != p) with | some x=>(x,true) | none=>(-1,false):=rfl
 have HV:=AS hvic
 generalize vicOf c rows k p=vi at *
 generalize rows (imod k c.sets)=xs at *
 have H0:=AS (hr 0)
 have O_:=AS (show ∀ m,OwnE intE (J A xs.length cp) xs (w.drewN m) from fun m=>ho.at_ (fun _ _=>rfl))
 clear hr hL hB hvic
 by_cases q1:k < 0
 ·have hv:=HV.out
  rw[if_pos q1] at hv
  subst hv
  clear ho
  go_enter Tryz.func151,Tryz.ntmps151
  go_wp2_with fail
  refine(H0.out:bB _ _ _ w _).mono ?_
  rintro e w1 ⟨rfl,m,rfl⟩
  go_wp2
  go_ret2
  exact RD.of rfl m
 ·by_cases q2:xs.contains k=true
  ·have hv:=HV.out
   rw[if_neg q1,if_pos (.inl q2)] at hv
   subst hv
   have Q2:=AS q2
   clear q2 ho
   go_enter Tryz.func151,Tryz.ntmps151
   go_wp2_with fail
   refine(H0.out:bB _ _ _ w _).mono ?_
   rintro e w1 ⟨rfl,m,rfl⟩
   go_wp2_with fail
   refine(HH.out m).mono ?_
   rintro e w1 ⟨rfl,m2,rfl⟩
   rw[Q2.out]
   go_wp2
   go_ret2
   exact⟨rfl,m+m2,rfl⟩
  ·have q2':xs.contains k=false:=by simpa using q2
   by_cases q3:(xs.length:Int) < c.ways
   ·have hv:=HV.out
    rw[if_neg q1,if_pos (.inr q3)] at hv
    subst hv
    have Q2:=AS q2'
    clear q2 q2' ho
    go_enter Tryz.func151,Tryz.ntmps151
    go_wp2_with fail
    refine(H0.out:bB _ _ _ w _).mono ?_
    rintro e w1 ⟨rfl,m,rfl⟩
    go_wp2_with fail
    refine(HH.out m).mono ?_
    rintro e w1 ⟨rfl,m2,rfl⟩
    rw[Q2.out]
    go_wp2
    go_ret2
    exact⟨rfl,m+m2,rfl⟩
   ·have hv:=HV.out
    rw[if_neg q1,if_neg (by rintro(h | h);exact q2 h;exact q3 h)] at hv
    have HV2:=AS hv
    have Q2:=AS q2'
    have hcs:=ho.cases
    clear q2 q2' hv HV ho
    obtain⟨v1,v2⟩:=vi
    rcases hcs with ⟨e1,e2⟩ | ⟨g,cap,cur,e1,-⟩
    ·subst e2
     exact absurd q3 (by simp;omega)
    ·simp at e1
     obtain⟨rfl,rfl⟩:=e1
     go_enter Tryz.func151,Tryz.ntmps151
     go_wp2_with fail
     refine(H0.out:bB _ _ _ w _).mono ?_
     rintro e w1 ⟨rfl,m,rfl⟩
     go_wp2_with fail
     refine(HH.out m).mono ?_
     rintro e w1 ⟨rfl,m2,rfl⟩
     rw[Q2.out]
     have OO:=AS (show OwnE intE (J (M ⟨g,0,U⟩) xs.length cp) xs w from(O_.out 0).at_ (fun _ _=>rfl))
     go_wp2
     go_loop [30,10] (fun v30 _=>∃ i:Nat,v30=V I i/\i≤xs.length/\Aside0 (∀ j,j < i->xs.getD j 0=p)) (fun v30 _=>xs.length+1 - (intOf v30).toNat)
     case atStart=>exact⟨0,rfl,vB,⟨fun j hj=>absurd hj vB⟩⟩
     case round =>
      obtain⟨i,rfl,hi,R⟩:=hrel
      by_cases d1:i < xs.length
      ·have r1:(i:Int) < (xs.length:Int):=vB
       have r0:(0:Int)≤(i:Int):=vB
       have e0:=int_cells OO.out d1
       generalize hy:xs.getD i 0=y at e0
       have HY:=AS hy
       clear hy
       by_cases hyp:y=p
       ·have hb:(y != p)=false:=by simp[hyp]
        have HX:=AS hyp
        clear hyp
        go_wp2
        go_round
        case rel =>
         refine⟨i+1,by go_num,vB,⟨fun j hj=>?_⟩⟩
         by_cases hji:j=i
         ·subst hji;rw[HY.out];exact HX.out
         ·exact R.out j vB
        case measure=>simp[intOf];omega
       ·have hb:(y != p)=true:=by simp[hyp]
        have HX:=AS hyp
        clear hyp
        have hv:=HV2.out
        have hfi:xs.find? (fun x=>x != p)=M y:=by
         rw[List.find?_eq_some_iff_getElem]
         refine⟨hb,i,d1,by have:=HY.out;simpa [List.getD,d1] using this,fun j hj=>?_⟩
         have:=R.out j hj
         have hj2:j < xs.length:=vB
         simp[List.getD,hj2] at this
         simp[this]
        rw[hfi] at hv
        simp at hv
        obtain⟨rfl,rfl⟩:=hv
        clear hfi
        go_wp2
        go_ret2
        exact⟨rfl,m+m2,rfl⟩
      ·have hin:i=xs.length:=vB
       subst hin
       have hv:=HV2.out
       have hfi:xs.find? (fun x=>x != p)=U:=by
        rw[List.find?_eq_none]
        intro x hx
        obtain⟨j,hj,e⟩:=List.getElem_of_mem hx
        have:=R.out j hj
        simp[List.getD,hj] at this
        simp[<- e,this]
       rw[hfi] at hv
       simp at hv
       obtain⟨rfl,rfl⟩:=hv
       clear hfi
       go_wp2
       go_ret2
       exact⟨rfl,m+m2,rfl⟩
theorem linNew_any (c:Cfg) (hc:1≤c.sets/\c.sets≤64/\1≤c.ways/\c.ways≤16) (w:cA):bB dA 75 #[V I c.sets,V I c.ways] w fun e w'=>∃ b,e=.returned (bA (M ⟨b,0,U⟩))/\LinAt c (fun _=>[]) b (nw w) w'/\Below w.heap.size w w':=by
 have m1:=fun w:cA=>run_makeMap (P:=dA) 209 w
 have k1:clamp c.sets 1 64=c.sets:=by unfold clamp;omega
 have k2:clamp c.ways 1 16=c.ways:=by unfold clamp;omega
 go_enter Tryz.func75,Tryz.ntmps75
 go_wp2_with fail
 refine(clamp_any _ _ _ _).mono ?_
 rintro e w1 ⟨rfl,rfl⟩
 rw[k1]
 go_wp2_with fail
 refine(clamp_any _ _ _ _).mono ?_
 rintro e w1 ⟨rfl,rfl⟩
 rw[k2]
 go_wp2
 go_ret
 refine⟨_,rfl,⟨fun x=>if x=w.heap.size+1 then -1 else if x=w.heap.size then -2 else -3,w.heap.size,#[],0,fun _=>U,?_,?_,IM.empty,?_,?_,?_,fun _ _=>rfl,fun _=>by simp,?_,hc⟩,?_⟩
 ·have:=nA (w.alloc (.map #[] 0)) (O #[V I c.sets,V I c.ways,.map (M w.heap.size)] 211);simpa using this
 ·exact lA (heap_alloc w _).1 _
 ·simp
 ·simp
 ·intro k v h;simp at h
 ·intro x hx
  show w.heap.size≤x
  simp only at hx
  split at hx
  ·omega
  ·split at hx <;> omega
 ·exact eA (eA (fA _ _) _) _
theorem wrapEq (x:Int):IntKind.i64.wrap x=wrap64 x:=by rw[IntKind.wrap_i64];unfold wrap64;omega
def rAdd (c:Cfg) (rows:Int->List Int) (b:Int):(Int->List Int)×Bool :=
 if b < 0∨(rows (imod b c.sets)).contains b=true∨((rows (imod b c.sets)).length:Int)≥c.ways then (rows,false) else (upd rows (imod b c.sets) (rows (imod b c.sets) ++ [b]),true)
def rRemove (c:Cfg) (rows:Int->List Int) (b:Int):(Int->List Int)×Bool :=
 if (rows (imod b c.sets)).contains b then (upd rows (imod b c.sets) ((rows (imod b c.sets)).erase b),true) else (rows,false)
def rUse (c:Cfg) (rows:Int->List Int) (b:Int):(Int->List Int)×Bool:=if (rRemove c rows b).2 then rAdd c (rRemove c rows b).1 b else ((rRemove c rows b).1,false)
theorem imod_pos (n m:Int) (h:1≤m):0≤imod n m:=by
 have:=tmod_lo n m h
 unfold imod
 rw[if_neg vB]
 split <;> omega
def LinP (v:Value) (c:Cfg) (rows:Int->List Int) (b:Nat) (F:Set_) (w:cA) (e:Ending) (w':cA):Prop:=e=.returned v/\LinAt c rows b (gr F w) w'/\KS F w w'
section
variable {c:Cfg} {rows:Int->List Int} {b bm:Nat} {F:Set_} {w w1:cA} {K:Nat->Int} {es:Array MapEntry} {ck:Nat} {f:Int->Option Value}
theorem linPut (h1:w.heap[b]?=M (O #[V I c.sets,V I c.ways,.map (M bm)] 211 (0,0))) (h2:w.heap[bm]?=M (.map es ck)) (h3:IM es ck f) (h4:K b = -1) (h5:K bm = -2)
  (h6:∀ k v,f k=M v->0≤k/\OwnE intE v (rows k) w/\∀ x∈foot v,K x=k) (h7:∀ k,f k=U->rows k=[]) (h8:∀ k,(rows k).length≤16) (h9:∀ x,-2≤K x->F x) (h10:1≤c.sets/\c.sets≤64/\1≤c.ways/\c.ways≤16)
  {ks:Int} {v':Value} {xs':List Int} (h0:0≤ks) (hk:KS (fun x=>K x=ks) w w1) (hO:OwnE intE v' xs' w1) (hf:∀ x∈foot v',(x < w.heap.size/\K x=ks)∨w.heap.size≤x) (hl:xs'.length≤16) :
  ∃ es' ck',(Instr.mapUpdate 209 (.map (M bm)) (V I ks) v').run dA w1=.ok () (aB w1 bm (.map es' ck'))/\LinAt c (upd rows ks xs') b (gr F w) (aB w1 bm (.map es' ck'))/\KS F w (aB w1 bm (.map es' ck')):=by
 have b1:=hk.at_ h1 (by show ¬ K b=ks;omega)
 have m1:=hk.at_ h2 (by show ¬ K bm=ks;omega)
 obtain⟨es',ck',hr,hi⟩:=h3.put (w:=w1) m1 under209 under3 ks v'
 have hbm:b≠bm:=fun e=>by rw[e] at h4;omega
 refine⟨es',ck',hr,⟨fun x=>if x < w.heap.size then K x else ks,bm,es',ck',_,(set_far m1 _ hbm).trans b1,set_at m1 _,hi,?_,?_,?_,?_,?_,?_,h10⟩,?_⟩
 ·show(if b < w.heap.size then K b else ks) = -1;rw[if_pos (eB h1)];exact h4
 ·show(if bm < w.heap.size then K bm else ks) = -2;rw[if_pos (eB h2)];exact h5
 ·intro k v hv
  by_cases hks:k=ks
  ·subst hks
   simp[fput] at hv
   subst hv
   refine⟨h0,?_,fun x hx=>?_⟩
   ·simp only[upd,if_true]
    refine hO.at_ fun x hx=>set_far m1 _ ?_
    rintro rfl
    rcases hf _ hx with ⟨_,h⟩ | h
    ·omega
    ·have:=eB h2;omega
   ·show(if x < w.heap.size then K x else k)=k
    rcases hf _ hx with ⟨h,h'⟩ | h
    ·rw[if_pos h];exact h'
    ·rw[if_neg vB]
  ·simp[fput,hks] at hv
   obtain⟨k0,ho,hx⟩:=h6 k v hv
   refine⟨k0,?_,fun x hx'=>?_⟩
   ·simp only[upd,hks,if_false]
    have:=ho.ks hk (fun x hx'=>by show ¬ K x=ks;rw[hx x hx'];exact hks)
    refine this.at_ fun x hx'=>set_far m1 _ ?_
    rintro rfl
    have:=hx _ hx'
    omega
   ·show(if x < w.heap.size then K x else ks)=k
    rw[if_pos (ho.lt x hx')];exact hx x hx'
 ·intro k hv
  by_cases hks:k=ks
  ·subst hks;simp[fput] at hv
  ·simp[fput,hks] at hv
   simp only[upd,hks,if_false]
   exact h7 k hv
 ·intro k
  by_cases hks:k=ks
  ·simp only[upd,hks,if_true];exact hl
  ·simp only[upd,hks,if_false];exact h8 k
 ·intro x hx
  simp only at hx
  by_cases hl:x < w.heap.size
  ·rw[if_pos hl] at hx;exact .inl (h9 x hx)
  ·exact .inr vB
 ·exact(hk.mono (fun x _ hx=>h9 x (by have:K x=ks:=hx;omega))).block (.inl (h9 bm vB)) _
end
theorem lrow_at {rows:Int->List Int} {w:cA} {K:Nat->Int} {f:Int->Option Value} (h6:∀ k v,f k=M v->0≤k/\OwnE intE v (rows k) w/\∀ x∈foot v,K x=k) (h7:∀ k,f k=U->rows k=[]) (ks:Int) :
  ∃ A cp,lrow f ks=J A (rows ks).length cp/\OwnE intE (J A (rows ks).length cp) (rows ks) w/\∀ x∈foot (J A (rows ks).length cp),K x=ks:=by
 unfold lrow
 cases hf:f ks with
 | none=>rw[h7 _ hf];exact⟨U,0,rfl,OwnE.nil _,by simp[foot_nil]⟩
 | some v =>
  obtain⟨k0,ho,hx⟩:=h6 _ _ hf
  obtain⟨A,cp,rfl,-⟩:=ho.row
  exact⟨A,cp,rfl,ho,hx⟩
theorem linAdd_any {c:Cfg} {rows:Int->List Int} {b:Nat} {F:Set_} {w:cA} (hL:LinAt c rows b F w) (k:Int):bB dA 154 #[bA (M ⟨b,0,U⟩),V I k] w (LinP (aA (rAdd c rows k).2) c (rAdd c rows k).1 b F w):=by
 have LL:=AS (show ∀ m,LinAt c rows b (gr F w) (w.drewN m)/\KS F w (w.drewN m) from fun m=>⟨hL.keep (KS.drewN (qB (fun _=>False) w) m) (fun x _ h=>⟨.inl h,id⟩),KS.drewN (qB F w) m⟩)
 have HH:=AS (show ∀ m,bB dA 152 #[bA (M ⟨b,0,U⟩),V I k] (w.drewN m) (RD (aA ((rows (imod k c.sets)).contains k)) (w.drewN m)) from fun m=>linHas_any (F:=F) (hL.keep (KS.drewN (qB (fun _=>False) w) m) (fun x _ h=>⟨h,id⟩)) k)
 obtain⟨K,bm,es,ck,f,h1,h2,h3,h4,h5,h6,h7,h8,h9,hs1,hs2,hs3,hs4⟩:=hL
 have hks:=imod_pos k c.sets hs1
 obtain⟨A,cp,hv,ho,hfo⟩:=lrow_at h6 h7 (imod k c.sets)
 have H0:=AS (linRow_any (w:=w) h1 h2 h3 hs1 hs2 k hv)
 have HS:=AS (linSet_any (w:=w) h1 hs1 hs2 k)
 have c1:=cw h1 1 (v:=V I c.ways)
 have c2:=cw h1 2 (v:=.map (M bm))
 have hlen:=h8 (imod k c.sets)
 have PUT:=AS (fun(w1:cA) (v':Value) (xs':List Int) (hk:KS (fun x=>K x=imod k c.sets) w w1) (hO:OwnE intE v' xs' w1) (hf:∀ x∈foot v',(x < w.heap.size/\K x=imod k c.sets)∨w.heap.size≤x) (hl:xs'.length≤16)=>linPut h1 h2 h3 h4 h5 h6 h7 h8 h9 ⟨hs1,hs2,hs3,hs4⟩ hks hk hO hf hl)
 have H1:=AS (qA h1 (qA h4 hks))
 have hra:rAdd c rows k=if k < 0∨(rows (imod k c.sets)).contains k=true∨((rows (imod k c.sets)).length:Int)≥c.ways then (rows,false) else (upd rows (imod k c.sets) (rows (imod k c.sets) ++ [k]),true):=rfl
 generalize rAdd c rows k=ra at *
 generalize hxs:rows (imod k c.sets)=xs at *
 generalize hkk:imod k c.sets=ks at *
 have HKK:=AS hkk
 clear h1 h2 h3 h4 h5 h6 h7 h8 h9 hv hxs hkk
 by_cases q1:k < 0
 ·rw[if_pos (.inl q1)] at hra
  subst hra
  clear ho hfo
  go_enter Tryz.func154,Tryz.ntmps154
  go_wp2_with fail
  refine H0.out.mono ?_
  rintro e w1 ⟨rfl,m,rfl⟩
  go_wp2
  go_ret
  exact⟨rfl,LL.out m⟩
 ·by_cases q2:xs.contains k=true
  ·rw[if_pos (.inr (.inl q2))] at hra
   subst hra
   have Q2:=AS q2
   clear q2 ho hfo
   go_enter Tryz.func154,Tryz.ntmps154
   go_wp2_with fail
   refine H0.out.mono ?_
   rintro e w1 ⟨rfl,m,rfl⟩
   go_wp2_with fail
   refine(HH.out m).mono ?_
   rintro e w1 ⟨rfl,m2,rfl⟩
   rw[Q2.out]
   go_wp2
   go_ret
   exact⟨rfl,LL.out (m+m2)⟩
  ·have q2':xs.contains k=false:=by simpa using q2
   by_cases q3:(xs.length:Int)≥c.ways
   ·rw[if_pos (.inr (.inr q3))] at hra
    subst hra
    have Q2:=AS q2'
    clear q2 q2' ho hfo
    go_enter Tryz.func154,Tryz.ntmps154
    go_wp2_with fail
    refine H0.out.mono ?_
    rintro e w1 ⟨rfl,m,rfl⟩
    go_wp2_with fail
    refine(HH.out m).mono ?_
    rintro e w1 ⟨rfl,m2,rfl⟩
    rw[Q2.out]
    go_wp2
    go_ret
    exact⟨rfl,LL.out (m+m2)⟩
   ·rw[if_neg (by rintro(h | h | h);exact q1 h;exact q2 h;exact q3 h)] at hra
    subst hra
    have Q2:=AS q2'
    have HO:=AS ho
    have HFO:=AS hfo
    clear q2 q2' ho hfo
    go_enter Tryz.func154,Tryz.ntmps154
    go_wp2_with fail
    refine H0.out.mono ?_
    rintro e w1 ⟨rfl,m,rfl⟩
    go_wp2_with fail
    refine(HH.out m).mono ?_
    rintro e w1 ⟨rfl,m2,rfl⟩
    rw[Q2.out]
    go_upto_region 4 with fail
    have OA:=AS (show OwnE intE (J A xs.length cp) xs ((w.drewN (m+m2)).drew.alloc (O #[V I k] 3)) from HO.out.ks (pB (fun _=>False) (eA (iA (bdN w (m+m2))) _)) (fun _ _=>id))
    have RA:=AS (rowE_one (E:=intE) (x:=k) (nA (w.drewN (m+m2)).drew (O #[V I k] 3)))
    have HL:=AS hlen
    go_region_law (first | (refine step_appE (E:=intE) (xs:=xs) (ys:=[k]) xB _ _ rfl rfl rfl rfl (by exact OA.out) (by exact RA.out) (by have:=HL.out;show _ * 8≤_;simp;omega) ?_;intro v1 w1 hO hK hf;have KK:=AS (show KS (fun x=>K x=ks) w w1 from(pB _ (eA (iA (bdN w (m+m2))) (O #[V I k] 3))).trans (KS.ofKeeps hK HFO.out) (fun _ _ h=>h));obtain⟨es',ck',hrun,hfin⟩:=PUT.out w1 v1 (xs ++ [k]) KK.out hO (by intro x hx;rcases hf with e | e;exact .inl ⟨HO.out.lt x (by rw[e] at hx;exact hx),HFO.out x (by rw[e] at hx;exact hx)⟩;exact .inr (by rw[e] at hx;simp[World.drew] at hx;omega)) (by simp;omega);have FI:=AS hfin;have Y1:=AS (KK.out.at_ H1.out.1 (by have:=H1.out.2;show ¬ K b=ks;omega));obtain⟨A1,n1,k1,rfl⟩:∃ A n c,v1=J A n c:=(by obtain⟨A,c,h,_⟩:=OwnE.row hO;exact⟨_,_,_,h⟩);clear hfin hO hK hf;have y2:w1.cell? ⟨b,2,U⟩=M (.map (M bm)):=cw Y1.out 2) | (go_simp;go_at_call 165;refine(linSet_any (by first | exact H1.out.1 | exact lA (w:=w.drewN (m+m2+1)) H1.out.1 _) hs1 hs2 k).mono ?_;rintro e w' ⟨rfl,rfl⟩;rw[HKK.out]))
    all_goals
     go_wp2
     go_ret
     exact⟨rfl,FI.out⟩
set_option maxHeartbeats 1000000 in
theorem linRemove_any {c:Cfg} {rows:Int->List Int} {b:Nat} {F:Set_} {w:cA} (hL:LinAt c rows b F w) (k:Int):bB dA 161 #[bA (M ⟨b,0,U⟩),V I k] w (LinP (aA (rRemove c rows k).2) c (rRemove c rows k).1 b F w):=by
 have LL:=AS (show ∀ m,LinAt c rows b (gr F w) (w.drewN m)/\KS F w (w.drewN m) from fun m=>⟨hL.keep (KS.drewN (qB (fun _=>False) w) m) (fun x _ h=>⟨.inl h,id⟩),KS.drewN (qB F w) m⟩)
 have HH:=AS (show ∀ m,bB dA 152 #[bA (M ⟨b,0,U⟩),V I k] (w.drewN m) (RD (aA ((rows (imod k c.sets)).contains k)) (w.drewN m)) from fun m=>linHas_any (F:=F) (hL.keep (KS.drewN (qB (fun _=>False) w) m) (fun x _ h=>⟨h,id⟩)) k)
 obtain⟨K,bm,es,ck,f,h1,h2,h3,h4,h5,h6,h7,h8,h9,hs1,hs2,hs3,hs4⟩:=hL
 have hks:=imod_pos k c.sets hs1
 obtain⟨A,cp,hv,ho,hfo⟩:=lrow_at h6 h7 (imod k c.sets)
 have H0:=AS (linRow_any (w:=w) h1 h2 h3 hs1 hs2 k hv)
 have HS:=AS (linSet_any (w:=w) h1 hs1 hs2 k)
 have c1:=cw h1 1 (v:=V I c.ways)
 have c2:=cw h1 2 (v:=.map (M bm))
 have hlen:=h8 (imod k c.sets)
 have PUT:=AS (fun(w1:cA) (v':Value) (xs':List Int) (hk:KS (fun x=>K x=imod k c.sets) w w1) (hO:OwnE intE v' xs' w1) (hf:∀ x∈foot v',(x < w.heap.size/\K x=imod k c.sets)∨w.heap.size≤x) (hl:xs'.length≤16)=>linPut h1 h2 h3 h4 h5 h6 h7 h8 h9 ⟨hs1,hs2,hs3,hs4⟩ hks hk hO hf hl)
 have H1:=AS (qA h1 (qA h4 hks))
 have hra:rRemove c rows k=if (rows (imod k c.sets)).contains k then (upd rows (imod k c.sets) ((rows (imod k c.sets)).erase k),true) else (rows,false):=rfl
 generalize rRemove c rows k=ra at *
 generalize hxs:rows (imod k c.sets)=xs at *
 generalize hkk:imod k c.sets=ks at *
 have HKK:=AS hkk
 have HI:=AS (show ∀ m,bB dA 177 #[J A xs.length cp,V I k] (w.drewN m) (RQ (V I (idxI xs k)) (w.drewN m)) from fun m=>index_any (w:=w.drewN m) (ho.at_ (fun _ _=>rfl)) k)
 clear h1 h2 h3 h4 h5 h6 h7 h8 h9 hv hxs hkk
 by_cases q2:k∈xs
 ·have q2':xs.contains k=true:=by simpa using q2
  rw[if_pos q2'] at hra
  subst hra
  have hi:xs.idxOf k < xs.length:=List.idxOf_lt_length_of_mem q2
  have hix:idxI xs k=(xs.idxOf k:Int):=if_pos q2
  have her:xs.erase k=xs.eraseIdx (xs.idxOf k):=List.erase_eq_eraseIdx_of_idxOf rfl
  rw[hix] at HI
  generalize xs.idxOf k=ix at *
  obtain⟨g,cap,hsl⟩:∃ g cap,(J A xs.length cp:Value)=J (M ⟨g,0,U⟩) xs.length cap:=by
   rcases ho.cases with ⟨e,e2⟩ | ⟨g,cap,cur,e,-⟩
   ·rw[e2] at hi;simp at hi
   ·exact⟨g,cap,e⟩
  simp at hsl
  obtain⟨rfl,rfl⟩:=hsl
  have HO:=AS ho
  have HFO:=AS (hfo g (by simp[foot_slice]))
  have HER:=AS her
  have q0:¬ ((ix:Int) < 0):=vB
  have q5:wrap64 ((ix:Int)+1)=(ix:Int)+1:=by unfold wrap64;omega
  have q6:IntKind.i64.wrap ((ix:Int)+1)=(ix:Int)+1:=(wrapEq _).trans q5
  have HL:=AS hlen
  clear q2 q2' ho hfo hix her
  go_enter Tryz.func161,Tryz.ntmps161
  go_wp2_with fail
  refine H0.out.mono ?_
  rintro e w1 ⟨rfl,m,rfl⟩
  go_wp2_with fail
  refine(HI.out m).mono ?_
  rintro e w1 ⟨rfl,rfl⟩
  go_upto_region 5 with fail
  go_region_law (first | (go_simp;go_at_call 165;refine(linSet_any (by first | exact H1.out.1 | exact lA (w:=w.drewN (m+1)) H1.out.1 _) hs1 hs2 k).mono ?_;rintro e w' ⟨rfl,rfl⟩;rw[HKK.out]) | (go_simp;go_at_call 178;refine(delI_any (w:=w.drewN (m+1)) (HO.out.at_ (fun _ _=>rfl)) hi).mono ?_;rintro e w1 ⟨rfl,hO,hK⟩;have KK:=AS (show KS (fun x=>K x=ks) w w1 from(pB _ (bdN w (m+1))).trans (KS.ofKeeps hK (by intro x hx;simp at hx;subst hx;exact HFO.out)) (fun _ _ h=>h));obtain⟨es',ck',hrun,hfin⟩:=PUT.out w1 _ _ KK.out hO (by intro x hx;simp[foot_slice] at hx;subst hx;exact .inl ⟨HO.out.lt _ (by simp[foot_slice]),HFO.out⟩) (by have:=HL.out;rw[List.length_eraseIdx_of_lt hi];omega);have FI:=AS hfin;have Y1:=AS (KK.out.at_ H1.out.1 (by have:=H1.out.2;show ¬ K b=ks;omega));clear hfin hO hK;have y2:w1.cell? ⟨b,2,U⟩=M (.map (M bm)):=cw Y1.out 2))
  all_goals
   go_wp2
   go_ret
   exact⟨rfl,by rw[HER.out];exact FI.out⟩
 ·have q2':xs.contains k=false:=by simpa using q2
  rw[if_neg (by rw[q2'];simp)] at hra
  subst hra
  rw[show idxI xs k = -1 from if_neg q2] at HI
  clear q2 q2' ho hfo
  go_enter Tryz.func161,Tryz.ntmps161
  go_wp2_with fail
  refine H0.out.mono ?_
  rintro e w1 ⟨rfl,m,rfl⟩
  go_wp2_with fail
  refine(HI.out m).mono ?_
  rintro e w1 ⟨rfl,rfl⟩
  go_wp2
  go_ret
  exact⟨rfl,LL.out m⟩
theorem linUse_any {c:Cfg} {rows:Int->List Int} {b:Nat} {F:Set_} {w:cA} (hL:LinAt c rows b F w) (k:Int):bB dA 143 #[bA (M ⟨b,0,U⟩),V I k] w (LinP (aA (rUse c rows k).2) c (rUse c rows k).1 b F w):=by
 have HR:=AS (linRemove_any hL k)
 have hu:rUse c rows k=if (rRemove c rows k).2 then rAdd c (rRemove c rows k).1 k else ((rRemove c rows k).1,false):=rfl
 generalize rUse c rows k=ru at *
 generalize rRemove c rows k=rr at *
 obtain⟨r1,r2⟩:=rr
 clear hL
 cases r2
 ·simp only[vA,if_false] at hu
  subst hu
  go_enter Tryz.func143,Tryz.ntmps143
  go_wp2_with fail
  refine HR.out.mono ?_
  rintro e w1 ⟨rfl,h1,h2⟩
  go_wp2
  go_ret
  exact⟨rfl,h1,h2⟩
 ·simp only[if_true] at hu
  subst hu
  go_enter Tryz.func143,Tryz.ntmps143
  go_wp2_with fail
  refine HR.out.mono ?_
  rintro e w1 ⟨rfl,h1,h2⟩
  have H1:=AS h1
  have H2:=AS h2
  clear h1 h2
  go_wp2_with fail
  refine(linAdd_any H1.out k).mono ?_
  rintro e w2 ⟨rfl,h3,h4⟩
  have HF:=AS (qA (h3.keep (qB (fun _=>False) _) (F':=gr F w) (fun x _ h=>⟨by rcases h with (h | h) | h;exact .inl h;exact .inr h;exact .inr (by have:=H2.out.size;omega),id⟩)) (H2.out.trans h4 (fun x hx h=>by rcases h with h | h;exact h;omega)))
  clear h3 h4
  go_wp2
  go_ret
  exact⟨rfl,HF.out⟩
end Go.Proofs.YtiebppkhaiofeaaGreat.K
