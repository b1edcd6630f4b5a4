/- Part of the proof of TopStarver: what functions of the program do. -/
import Derived.WalkKit
import Derived.MapKept
import Derived.ChangeMaps4
import Derived.Below
import Derived.Deep.Draws
import Derived.Deep.AppendLies
import Derived.Maps.AppendAt
import Derived.OwnWalk
import Derived.Laws.BytesArg
import Derived.Laws.MakeOwn
import Derived.Laws.OwnMore
import Derived.Deep.OwnRows
import Derived.Tactics
import Derived.Lib.ConvBytes
import Derived.Laws.Slices
import Derived.KernelRfl
import Derived.RowKit3
import Derived.Deep.LoopGhost
import Derived.Deep.QuietTactic
import Derived.BigQuiet
import Derived.WideLaws
import Derived.Deep.DeepCutAuto
import Derived.Deep.CutBlock
import Derived.Deep.RegionHeld3
import Derived.Laws.Rows
import Derived.Lib.AppendStr
import Derived.ArgAppend
import Derived.Laws.IdiomCopy
import Derived.RowKit
import Derived.Test.YtiebppkhaiofeaaGreatProg
import Derived.Deep.RegionLaw
set_option maxHeartbeats 4000000
set_option maxRecDepth 100000
set_option linter.unusedVariables false
set_option linter.unusedSimpArgs false
namespace Go.Proofs.YtiebppkhaiofeaaGreat.K
open Go.MapKept Go.ChangeMaps
def IM (es:Array MapEntry) (ck:Nat) (f:Int->Option Value):Prop :=
 Stamped es ck/\(∀ x∈es.toList,∃ k,x.key=.int .i64 k/\f k=some x.val)/\∀ k v,f k=some v->∃ x∈es.toList,x.key=.int .i64 k
def fput (f:Int->Option Value) (k:Int) (v:Value):Int->Option Value:=fun j=>if j=k then some v else f j
def fdel (f:Int->Option Value) (k:Int):Int->Option Value:=fun j=>if j=k then none else f j
section
variable {P:Program} {w:World} {t kt et:TypeId} {b:Nat} {es:Array MapEntry} {ck:Nat} {f:Int->Option Value}
theorem IM.empty:IM #[] 0 (fun _=>none):=⟨stamped_empty 0,by simp,by simp⟩
theorem isKey_int (k:Int):IsKey (.int .i64) (.int .i64 k):=by simp[IsKey]
theorem IM.keys (h:IM es ck f):∀ x∈es.toList,IsKey (.int .i64) x.key:=fun x hx=>by
 obtain⟨k,e,_⟩:=h.2.1 x hx
 rw[e];exact isKey_int k
theorem IM.find (h:IM es ck f) (k:Int):(f k=none/\Instr.findNow (.int .i64) (.int .i64 k) es.toList 0=some none/\∀ x∈es.toList,x.key≠.int .i64 k)∨∃ j e,f k=some e.val/\Instr.findNow (.int .i64) (.int .i64 k) es.toList 0=some (some (j,e.val))/\es[j]?=some e/\e.key=.int .i64 k:=by
 rcases findNow_spec (isKey_int k) es.toList 0 h.keys with ⟨h1,h2⟩ | ⟨j,e,h1,h2,h3⟩
 ·refine .inl ⟨?_,h1,h2⟩
  cases hf:f k with
  | none=>rfl
  | some v=>obtain⟨x,hx,e⟩:=h.2.2 k v hf;exact absurd e (h2 x hx)
 ·refine .inr ⟨j,e,?_,by simpa using h1,by simpa using h2,h3⟩
  obtain⟨k',e',hf⟩:=h.2.1 e (List.mem_of_getElem? h2)
  rw[h3] at e'
  injection e' with _ e'
  rw[e'];exact hf
theorem IM.pos (h:IM es ck f) {i j:Nat} {x y:MapEntry} (hi:es[i]?=some x) (hj:es[j]?=some y) (e:x.key=y.key):i=j:=by
 have hn:=h.1.2.2
 obtain⟨hi1,hi2⟩:=Array.getElem?_eq_some_iff.1 hi
 obtain⟨hj1,hj2⟩:=Array.getElem?_eq_some_iff.1 hj
 have:(es.toList.map (·.key))[i]'(by simpa using hi1)=(es.toList.map (·.key))[j]'(by simpa using hj1):=by simp[hi2,hj2,e]
 rcases Nat.lt_trichotomy i j with q | q | q
 ·exact absurd this (List.pairwise_iff_getElem.1 hn i j (by simpa using hi1) (by simpa using hj1) q)
 ·exact q
 ·exact absurd this.symm (List.pairwise_iff_getElem.1 hn j i (by simpa using hj1) (by simpa using hi1) q)
theorem IM.look (h:IM es ck f) (hb:w.heap[b]?=some (.map es ck)) (ht:P.underlying t=some (.map kt et)) (hk:P.underlying kt=some (.int .i64)) {z:Value} (hz:(zeroValue et).run P w=.ok z w) (k:Int) :
  (Instr.lookup t (.map (some b)) (.int .i64 k) false).run P w=.ok ((f k).getD z) w:=by
 rcases h.find k with ⟨h0,h1,h2⟩ | ⟨j,e,h0,h1,h2,h3⟩
 ·rw[h0]
  simp[Instr.lookup,run_underlying ht,MapKept.run_getObj_map hb,run_checkKey hk (isKey_int k),run_findKey hk h1,hz,Result.andThen]
 ·rw[h0]
  simp[Instr.lookup,run_underlying ht,MapKept.run_getObj_map hb,run_checkKey hk (isKey_int k),run_findKey hk h1,Result.andThen]
theorem IM.look2 (h:IM es ck f) (hb:w.heap[b]?=some (.map es ck)) (ht:P.underlying t=some (.map kt et)) (hk:P.underlying kt=some (.int .i64)) {z:Value} (hz:(zeroValue et).run P w=.ok z w) (k:Int) :
  (Instr.lookup t (.map (some b)) (.int .i64 k) true).run P w=.ok (.tuple #[(f k).getD z,.bool (f k).isSome]) w:=by
 rcases h.find k with ⟨h0,h1,h2⟩ | ⟨j,e,h0,h1,h2,h3⟩
 ·rw[h0]
  simp[Instr.lookup,run_underlying ht,MapKept.run_getObj_map hb,run_checkKey hk (isKey_int k),run_findKey hk h1,hz,Result.andThen]
 ·rw[h0]
  simp[Instr.lookup,run_underlying ht,MapKept.run_getObj_map hb,run_checkKey hk (isKey_int k),run_findKey hk h1,Result.andThen]
theorem IM.put (h:IM es ck f) (hb:w.heap[b]?=some (.map es ck)) (ht:P.underlying t=some (.map kt et)) (hk:P.underlying kt=some (.int .i64)) (k:Int) (v:Value) :
  ∃ es' ck',(Instr.mapUpdate t (.map (some b)) (.int .i64 k) v).run P w=.ok () (setBlock w b (.map es' ck'))/\IM es' ck' (fput f k v):=by
 rcases h.find k with ⟨h0,h1,h2⟩ | ⟨j,e,h0,h1,h2,h3⟩
 ·refine⟨es.push { key:=.int .i64 k,val:=v,born:=ck },ck+1,?_,stamped_push h.1 h2,?_,?_⟩
  ·simp[Instr.mapUpdate,run_underlying ht,MapKept.run_getObj_map hb,run_checkKey hk (isKey_int k),run_findKey hk h1,MapKept.run_setObj_map _ hb,Result.andThen,setBlock]
  ·intro x hx
   simp only[Array.toList_push,List.mem_append,List.mem_singleton] at hx
   rcases hx with hx | rfl
   ·obtain⟨k',e',hf⟩:=h.2.1 x hx
    refine⟨k',e',?_⟩
    unfold fput
    rw[if_neg (fun q=>h2 x hx (by rw[e',q]))];exact hf
   ·exact⟨k,rfl,by simp[fput]⟩
  ·intro k' v' hf
   unfold fput at hf
   by_cases q:k'=k
   ·subst q;exact⟨{ key:=.int .i64 k',val:=v,born:=ck },by simp,rfl⟩
   ·rw[if_neg q] at hf
    obtain⟨x,hx,e⟩:=h.2.2 k' v' hf
    exact⟨x,by rw[Array.toList_push];exact List.mem_append_left _ hx,e⟩
 ·have hkey:∀ e',es[j]?=some e'->({ e' with key:=.int .i64 k,val:=v }:MapEntry).key=e'.key:=fun e' he'=>by rw[h2] at he';cases he';exact h3.symm
  have hlt:j < es.size:=(Array.getElem?_eq_some_iff.1 h2).1
  have hej:es[j]=e:=(Array.getElem?_eq_some_iff.1 h2).2
  have hmem:∀ x,x∈(es.modify j fun e=>{ e with key:=.int .i64 k,val:=v }).toList↔(x∈es.toList/\x.key≠.int .i64 k)∨x={ e with key:=.int .i64 k,val:=v }:=by
   intro x
   simp only[Array.mem_toList_iff,Array.mem_iff_getElem?,Array.getElem?_modify]
   constructor
   ·rintro⟨i,hi⟩
    by_cases q:j=i
    ·subst q
     rw[if_pos rfl,h2] at hi
     simp at hi
     exact .inr hi.symm
    ·rw[if_neg q] at hi
     refine .inl ⟨⟨i,hi⟩,fun e'=>q ?_⟩
     exact h.pos h2 hi (h3.trans e'.symm)
   ·rintro(⟨⟨i,hi⟩,hne⟩ | rfl)
    ·by_cases q:j=i
     ·subst q;rw[h2] at hi;cases hi;exact absurd h3 hne
     ·exact⟨i,by rw[if_neg q];exact hi⟩
    ·exact⟨j,by rw[if_pos rfl,h2];rfl⟩
  refine⟨es.modify j fun e=>{ e with key:=.int .i64 k,val:=v },ck,?_,stamped_modify h.1 _ _ (fun _ _=>rfl) (fun e' _ he'=>hkey e' he'),?_,?_⟩
  ·simp[Instr.mapUpdate,run_underlying ht,MapKept.run_getObj_map hb,run_checkKey hk (isKey_int k),run_findKey hk h1,h2,h3,run_keyThatStays (isKey_int k),MapKept.run_setObj_map _ hb,Result.andThen,setBlock]
  ·intro x hx
   rcases(hmem x).1 hx with ⟨hx,hne⟩ | rfl
   ·obtain⟨k',e',hf⟩:=h.2.1 x hx
    refine⟨k',e',?_⟩
    unfold fput
    rw[if_neg (fun q=>hne (by rw[e',q]))];exact hf
   ·exact⟨k,rfl,by simp[fput]⟩
  ·intro k' v' hf
   unfold fput at hf
   by_cases q:k'=k
   ·subst q;exact⟨_,(hmem _).2 (.inr rfl),rfl⟩
   ·rw[if_neg q] at hf
    obtain⟨x,hx,e'⟩:=h.2.2 k' v' hf
    exact⟨x,(hmem x).2 (.inl ⟨hx,by rw[e'];intro e2;injection e2 with _ e2;exact q e2⟩),e'⟩
theorem IM.del (h:IM es ck f) (hb:w.heap[b]?=some (.map es ck)) (ht:P.underlying t=some (.map kt et)) (hk:P.underlying kt=some (.int .i64)) (k:Int) (at_ ty:TypeId) :
  ∃ es',(Builtin.delete_ #[t,at_] ty #[.map (some b),.int .i64 k]).run P w=.ok (.tuple #[]) (setBlock w b (.map es' ck))/\IM es' ck (fdel f k):=by
 rcases h.find k with ⟨h0,h1,h2⟩ | ⟨j,e,h0,h1,h2,h3⟩
 ·refine⟨es,?_,h.1,?_,?_⟩
  ·simp[Builtin.delete_,run_underlying ht,MapKept.run_getObj_map hb,run_checkKey hk (isKey_int k),run_findKey hk h1,MapKept.run_setObj_map _ hb,Result.andThen,setBlock]
  ·intro x hx
   obtain⟨k',e',hf⟩:=h.2.1 x hx
   exact⟨k',e',by unfold fdel;rw[if_neg (fun q=>h2 x hx (by rw[e',q]))];exact hf⟩
  ·intro k' v hf
   unfold fdel at hf
   by_cases q:k'=k
   ·rw[if_pos q] at hf;cases hf
   ·rw[if_neg q] at hf;exact h.2.2 k' v hf
 ·have hlt:j < es.size:=(Array.getElem?_eq_some_iff.1 h2).1
  refine⟨es.eraseIdxIfInBounds j,?_,stamped_erase h.1 j,?_,?_⟩
  ·simp[Builtin.delete_,run_underlying ht,MapKept.run_getObj_map hb,run_checkKey hk (isKey_int k),run_findKey hk h1,MapKept.run_setObj_map _ hb,Result.andThen,setBlock]
  ·have hl:(es.eraseIdxIfInBounds j).toList=es.toList.eraseIdx j:=by unfold Array.eraseIdxIfInBounds;rw[dif_pos hlt];simp
   intro x hx
   rw[hl] at hx
   obtain⟨i,hi,hix⟩:=List.mem_eraseIdx_iff_getElem?.1 hx
   obtain⟨k',e',hf⟩:=h.2.1 x (List.mem_of_getElem? hix)
   refine⟨k',e',?_⟩
   unfold fdel
   rw[if_neg]
   ·exact hf
   ·intro q
    refine hi (h.pos (x:=x) (y:=e) (by simpa using hix) h2 (by rw[e',h3,q]))
  ·intro k' v hf
   unfold fdel at hf
   by_cases q:k'=k
   ·rw[if_pos q] at hf;cases hf
   ·rw[if_neg q] at hf
    obtain⟨x,hx,e'⟩:=h.2.2 k' v hf
    refine⟨x,?_,e'⟩
    have hl:(es.eraseIdxIfInBounds j).toList=es.toList.eraseIdx j:=by unfold Array.eraseIdxIfInBounds;rw[dif_pos hlt];simp
    rw[hl]
    obtain⟨i,hi⟩:=List.getElem?_of_mem hx
    refine List.mem_eraseIdx_iff_getElem?.2 ⟨i,?_,hi⟩
    rintro rfl
    have:es[i]?=some x:=by simpa using hi
    rw[h2] at this
    cases this
    rw[h3] at e'
    injection e' with _ e'
    exact q e'.symm
theorem set_at (hb:w.heap[b]?=some (.map es ck)) (o:Obj):(setBlock w b o).heap[b]?=some o:=(heap_set hb).1
theorem set_far (hb:w.heap[b]?=some (.map es ck)) (o:Obj) {i:Nat} (hi:i≠b):(setBlock w b o).heap[i]?=w.heap[i]?:=(heap_set hb).2 i hi
end
end Go.Proofs.YtiebppkhaiofeaaGreat.K
namespace Go.Proofs.YtiebppkhaiofeaaGreatW.PrintWords
open Go.RowKit
structure Aside0 (p:Prop):Prop where mk :: (out:p)
def rd (xs:List Int) (i:Int):Int:=xs.getD i.toNat 0
def bt (s:ByteArray) (i:Int):Int:=if h:i.toNat < s.size then ((s[i.toNat]'h).toNat:Int) else 0
theorem below_alloc {w W:World} (h:Below w.heap.size w W) (o:Obj):Below w.heap.size w (W.alloc o):=h.alloc h.size o
theorem blk_set {w:World} {g:Nat} {t:TypeId} {cs:Array Value} (h:w.heap[g]?=some (.cells cs t (0,0))) (i:Nat) (u:Value):(w.setCell ⟨g,i,none⟩ u).heap[g]?=some (.cells (cs.setIfInBounds i u) t (0,0)):=by
 simp[World.setCell,Array.getElem?_modify,h]
theorem blk_far {w:World} {g:Nat} {t:TypeId} {cs:Array Value} (h:w.heap[g]?=some (.cells cs t (0,0))) {p:Addr} (hp:g≠p.block) (u:Value):(w.setCell p u).heap[g]?=some (.cells cs t (0,0)):=(Below.heap_setCell w p u g hp).trans h
theorem blk_lt {w:World} {g:Nat} {o:Obj} (h:w.heap[g]?=some o):g < w.heap.size:=(Array.getElem?_eq_some_iff.1 h).1
theorem blk_cell {w:World} {g:Nat} {t:TypeId} {cs:Array Value} (h:w.heap[g]?=some (.cells cs t (0,0))) (i:Nat):w.cell? ⟨g,i,none⟩=cs[i]?:=cell_of_row w g i cs t (0,0) h
theorem blk_frozen {w:World} {g:Nat} {t:TypeId} {cs:Array Value} (h:w.heap[g]?=some (.cells cs t (0,0))) (i:Nat):w.frozen? ⟨g,i,none⟩=false:=by simp[World.frozen?,h]
section
variable {α:Type} {enc:α->Value} {d:α}
def encs (enc:α->Value) (xs:List α):List Value:=xs.map enc
end
theorem blk_alloc {w:World} {g:Nat} {o:Obj} (h:w.heap[g]?=some o) (o':Obj):(w.alloc o').heap[g]?=some o:=(Below.heap_alloc w o' g (blk_lt h)).trans h
theorem blk_drew {w:World} {g:Nat} {o:Obj} (h:w.heap[g]?=some o):w.drew.heap[g]?=some o:=h
theorem blk_drewN {w:World} {g:Nat} {o:Obj} (h:w.heap[g]?=some o) (n:Nat):(w.drewN n).heap[g]?=some o:=h
theorem blk_below {w w1:World} {g:Nat} {o:Obj} (h:w.heap[g]?=some o) (hb:Below w.heap.size w w1):w1.heap[g]?=some o:=(hb.block g (blk_lt h)).trans h
theorem blk_new (w:World) (o:Obj):(w.alloc o).heap[w.heap.size]?=some o:=heap_alloc_new w o
namespace Kd
end Kd
namespace Kd
end Kd
namespace Kd
end Kd
namespace Kd
end Kd
namespace Kd
end Kd
namespace Kd
end Kd
namespace Kd
end Kd
namespace Kd
end Kd
namespace Kd
end Kd
namespace Kd
end Kd
theorem add_add (a:Addr) (i j:Nat):(a.add i).add j=a.add (i+j):=by
 unfold Addr.add
 by_cases h1:i=0 <;> by_cases h2:j=0 <;> simp[h1,h2,Nat.add_assoc]
namespace Kd
end Kd
namespace Kd
end Kd
namespace Kd
end Kd
namespace Kd
end Kd
namespace Kd
end Kd
section
variable {P:Program} {ops:Array Oper} {o:Oper} {a:Act} {Q:Exit->Act->World->Prop} {Kc:Act->World->Prop}
namespace Kd
variable {α:Type}
end Kd
end
namespace Kd
end Kd
theorem AS {p:Prop} (h:p):Aside0 p:=⟨h⟩
theorem cw {w:World} {g:Nat} {t:TypeId} {cs:Array Value} (h:w.heap[g]?=some (.cells cs t (0,0))) (i:Nat) {v:Value} (e:cs[i]?=some v:=by rfl):w.cell? ⟨g,i,none⟩=some v:=(blk_cell h i).trans e
end Go.Proofs.YtiebppkhaiofeaaGreatW.PrintWords
namespace Go.Proofs.YtiebppkhaiofeaaGreat.K
open Go.RowKit Go.Proofs.YtiebppkhaiofeaaGreatW.PrintWords Go.ChangeMaps Go.MapKept
def Keeps (F:List Nat) (w w':World):Prop:=w'.os=w.os/\w'.tape=w.tape/\w'.output=w.output/\w.heap.size≤w'.heap.size/\∀ i,i < w.heap.size->i∉F->w'.heap[i]?=w.heap[i]?
section
variable {F G:List Nat} {w w' a b c W:World}
theorem Keeps.refl (F:List Nat) (w:World):Keeps F w w:=⟨rfl,rfl,rfl,Nat.le_refl _,fun _ _ _=>rfl⟩
theorem Keeps.size (h:Keeps F w w'):w.heap.size≤w'.heap.size:=h.2.2.2.1
theorem Keeps.at_ (h:Keeps F w w') {i:Nat} {o:Obj} (hi:w.heap[i]?=some o) (hF:i∉F):w'.heap[i]?=some o:=(h.2.2.2.2 i (blk_lt hi) hF).trans hi
theorem Keeps.mono (h:Keeps F w w') (hs:∀ x∈F,x∈G∨w.heap.size≤x):Keeps G w w' :=
 ⟨h.1,h.2.1,h.2.2.1,h.2.2.2.1,fun i hi hG=>h.2.2.2.2 i hi (fun hF=>by rcases hs i hF with h1 | h1;exact hG h1;omega)⟩
theorem Keeps.trans (h:Keeps F a b) (k:Keeps G b c) (hs:∀ x∈G,x∈F∨a.heap.size≤x):Keeps F a c :=
 ⟨k.1.trans h.1,k.2.1.trans h.2.1,k.2.2.1.trans h.2.2.1,Nat.le_trans h.size k.size,fun i hi hF=>(k.2.2.2.2 i (Nat.lt_of_lt_of_le hi h.size) (fun hG=>by rcases hs i hG with h1 | h1;exact hF h1;omega)).trans (h.2.2.2.2 i hi hF)⟩
theorem Keeps.below (F:List Nat) (h:Below w.heap.size w w'):Keeps F w w':=⟨h.os,h.tape,h.output,h.size,fun i hi _=>h.block i hi⟩
theorem Keeps.toBelow {B:Nat} (h:Keeps F w w') (hF:∀ x∈F,B≤x) (hs:B≤w.heap.size):Below B w w' :=
 ⟨h.1,h.2.1,h.2.2.1,h.2.2.2.1,fun i hi=>h.2.2.2.2 i (by omega) (fun hx=>by have:=hF i hx;omega)⟩
theorem Keeps.nil (h:Keeps [] w w'):Below w.heap.size w w':=h.toBelow (by simp) (Nat.le_refl _)
theorem Keeps.set (h:Keeps F w W) {g:Nat} (hg:g∈F∨w.heap.size≤g) (i:Nat) (u:Value):Keeps F w (W.setCell ⟨g,i,none⟩ u) :=
 ⟨h.1,h.2.1,h.2.2.1,by simpa using h.2.2.2.1,fun j hj hF=>(Below.heap_setCell W ⟨g,i,none⟩ u j (show j≠g by rintro rfl;rcases hg with h1 | h1;exact hF h1;omega)).trans (h.2.2.2.2 j hj hF)⟩
theorem Keeps.block (h:Keeps F w W) {g:Nat} (hg:g∈F∨w.heap.size≤g) (o:Obj):Keeps F w (setBlock W g o) :=
 ⟨h.1,h.2.1,h.2.2.1,by simpa [setBlock] using h.2.2.2.1,fun j hj hF=>by
  have hne:j≠g:=by rintro rfl;rcases hg with h1 | h1;exact hF h1;omega
  show(W.heap.setIfInBounds g o)[j]?=_
  rw[Array.getElem?_setIfInBounds_ne (Ne.symm hne)]
  exact h.2.2.2.2 j hj hF⟩
theorem Keeps.alloc (h:Keeps F w W) (o:Obj):Keeps F w (W.alloc o):=h.trans (Keeps.below [] (below_alloc (Below.refl _ _) o)) (by simp)
theorem Keeps.drew (h:Keeps F w W):Keeps F w W.drew:=h
theorem Keeps.drewN (h:Keeps F w W) (n:Nat):Keeps F w (W.drewN n):=h
theorem Keeps.grown {r:Option Nat} (h:w.grownBy w' r):Keeps r.toList w w':=⟨h.os,h.tape,h.output,h.size,fun i hi hr=>h.block i hi (by rintro rfl;simp at hr)⟩
end
def foot (v:Value):List Nat:=v.ownBlock.toList
theorem foot_slice (g o n c:Nat):foot (.slice (some ⟨g,o,none⟩) n c)=[g]:=rfl
theorem foot_nil (n c:Nat):foot (.slice none n c)=[]:=rfl
structure El (α:Type) where
 f:α->List Value
 d:α
 k:Nat
 T:TypeId
 S:TypeId
 bys:Nat
 z:Value
 len:∀ a,(f a).length=k
 one:∀ a,∀ u∈f a,u.oneCell'=true
 pos:0 < k
 hS:Tryz.prog.underlying S=some (.slice T)
 info:(Tryz.prog.info? T).map (fun i=>(i.zero,i.size,i.bytes))=some (some z,k,bys)
 hz:z.cells.toList=f d
 hb:1≤bys
section
variable {α:Type} (E:El α)
def flat (xs:List α):List Value:=xs.flatMap E.f
theorem flat_cons (x:α) (xs:List α):flat E (x :: xs)=E.f x ++ flat E xs:=rfl
theorem flat_append (xs ys:List α):flat E (xs ++ ys)=flat E xs ++ flat E ys:=by simp[flat]
theorem flat_len (xs:List α):(flat E xs).length=xs.length * E.k:=by
 induction xs with
 | nil=>simp[flat]
 | cons x xs ih=>rw[flat_cons,List.length_append,E.len,ih,List.length_cons,Nat.add_mul];omega
theorem flat_one (xs:List α):∀ u∈flat E xs,u.oneCell'=true:=by
 intro u hu
 obtain⟨x,_,hx⟩:=List.mem_flatMap.1 hu
 exact E.one x u hx
theorem flat_get (xs:List α):∀ (i j:Nat),i < xs.length->j < E.k->(flat E xs)[i * E.k+j]?=(E.f (xs.getD i E.d))[j]?:=by
 induction xs with
 | nil=>intro i j hi;simp at hi
 | cons x xs ih =>
  intro i j hi hj
  rw[flat_cons]
  cases i with
  | zero =>
   rw[List.getElem?_append_left (by rw[E.len];omega)]
   simp
  | succ i =>
   rw[List.getElem?_append_right (by rw[E.len,Nat.add_mul];omega),E.len,show(i+1) * E.k+j - E.k=i * E.k+j by rw[Nat.add_mul];omega,ih i j (by simpa using hi) hj]
   simp
theorem flat_take (xs:List α) (i:Nat) (h:i≤xs.length):(flat E xs).take (i * E.k)=flat E (xs.take i):=by
 conv=>lhs;rw[<- List.take_append_drop i xs,flat_append]
 rw[List.take_left' (by rw[flat_len,List.length_take,Nat.min_eq_left h])]
theorem flat_drop (xs:List α) (i:Nat) (h:i≤xs.length):(flat E xs).drop (i * E.k)=flat E (xs.drop i):=by
 conv=>lhs;rw[<- List.take_append_drop i xs,flat_append]
 rw[List.drop_left' (by rw[flat_len,List.length_take,Nat.min_eq_left h])]
def RowE (W:World) (A:Option Addr) (xs:List α):Prop:=∀ i,i < xs.length->∃ ad,A=some ad/\∀ j,j < E.k->W.cell? (ad.add (i * E.k+j))=(E.f (xs.getD i E.d))[j]?
def OwnE (v:Value) (xs:List α) (W:World):Prop:=W.ownsRow 0 E.T E.k v xs.length (flat E xs)
variable {E} {xs ys:List α} {v:Value} {W W' w:World} {A:Option Addr}
theorem RowE.below (h:RowE E W A xs) (hb:Below W.heap.size W W'):RowE E W' A xs:=by
 intro i hi
 obtain⟨ad,e,hc⟩:=h i hi
 refine⟨ad,e,fun j hj=>?_⟩
 have h1:=hc j hj
 have h2:(E.f (xs.getD i E.d))[j]?=some ((E.f (xs.getD i E.d))[j]'(by rw[E.len];exact hj)):=List.getElem?_eq_getElem _
 rw[h2] at h1 ⊢
 exact(hb.cell (World.block_lt_of_cell? W _ h1)).trans h1
theorem RowE.news {ad:Addr} (h:RowE E W (some ad) xs):∀ j u,(flat E xs)[j]?=some u->W.cell? (ad.add j)=some u:=by
 intro j u hu
 have hj:j < xs.length * E.k:=by rw[<- flat_len];exact(List.getElem?_eq_some_iff.1 hu).1
 have hp:=E.pos
 have hd:j / E.k < xs.length:=Nat.div_lt_of_lt_mul (by rw[Nat.mul_comm];exact hj)
 obtain⟨ad',e,hc⟩:=h (j / E.k) hd
 injection e with e
 subst e
 have h1:=hc (j % E.k) (Nat.mod_lt _ hp)
 have e:j / E.k * E.k+j % E.k=j:=by rw[Nat.mul_comm];exact Nat.div_add_mod j E.k
 rw[e] at h1
 rw[h1,<- flat_get E xs (j / E.k) (j % E.k) hd (Nat.mod_lt _ hp),e,hu]
theorem OwnE.nil (W:World):OwnE E (.slice none 0 0) [] W:=World.ownsRow_nil _ _ _ _
theorem OwnE.cases (h:OwnE E v xs W):(v=.slice none 0 0/\xs=[])∨∃ g cap cur,v=.slice (some ⟨g,0,none⟩) xs.length cap/\W.heap[g]?=some (.cells cur E.T (0,0))/\xs.length≤cap/\cap≤9223372036854775807/\cur.size=cap * E.k/\cur.toList.take (xs.length * E.k)=flat E xs:=by
 rcases h.2 with ⟨e,hn⟩ | ⟨g,cap,cur,e,_,hg,hnc,hm,hs,ht⟩
 ·exact .inl ⟨e,List.eq_nil_of_length_eq_zero hn⟩
 ·exact .inr ⟨g,cap,cur,e,hg,hnc,by unfold maxLen at hm;omega,hs,ht⟩
theorem OwnE.mk {g cap:Nat} {cur:Array Value} (hg:W.heap[g]?=some (.cells cur E.T (0,0))) (h1:xs.length≤cap) (h2:cap≤9223372036854775807) (h3:cur.size=cap * E.k) (h4:cur.toList.take (xs.length * E.k)=flat E xs):OwnE E (.slice (some ⟨g,0,none⟩) xs.length cap) xs W :=
 ⟨by rw[flat_len],.inr ⟨g,cap,cur,rfl,Nat.zero_le _,hg,h1,by unfold maxLen;omega,h3,h4⟩⟩
theorem OwnE.row (h:OwnE E v xs W):∃ A c,v=.slice A xs.length c/\RowE E W A xs/\xs.length≤c/\c≤9223372036854775807/\(A=none->xs=[]):=by
 rcases h.cases with ⟨rfl,rfl⟩ | ⟨g,cap,cur,rfl,hg,hnc,hm,_⟩
 ·exact⟨none,0,rfl,fun i hi=>by simp at hi,Nat.le_refl _,by omega,fun _=>rfl⟩
 ·refine⟨_,cap,rfl,fun i hi=>⟨_,rfl,fun j hj=>?_⟩,hnc,hm,fun e=>by simp at e⟩
  have hlt:i * E.k+j < (flat E xs).length:=by
   rw[flat_len]
   have:i * E.k+E.k≤xs.length * E.k:=by rw[<- Nat.succ_mul];exact Nat.mul_le_mul_right _ hi
   omega
  have:=World.ownsRow.cells h (g:=g) rfl (i * E.k+j) _ (List.getElem?_eq_getElem hlt)
  rw[this,<- List.getElem?_eq_getElem hlt,flat_get E xs i j hi hj]
theorem OwnE.lt (h:OwnE E v xs W):∀ b∈foot v,b < W.heap.size:=by
 intro b hb
 have hb':v.ownBlock=some b:=by simpa [foot] using hb
 exact(World.ownsRow.lt h b hb').2
theorem OwnE.at_ (h:OwnE E v xs W) (hk:∀ b∈foot v,W'.heap[b]?=W.heap[b]?):OwnE E v xs W':=by
 rcases h.cases with ⟨rfl,rfl⟩ | ⟨g,cap,cur,rfl,hg,r⟩
 ·exact OwnE.nil _
 ·exact OwnE.mk ((hk g (by simp[foot_slice])).trans hg) r.1 r.2.1 r.2.2.1 r.2.2.2
theorem OwnE.keep {F:List Nat} (h:OwnE E v xs W) (hk:Keeps F W W') (hF:∀ b∈foot v,b∉F):OwnE E v xs W':=h.at_ fun b hb=>hk.2.2.2.2 b (h.lt b hb) (hF b hb)
theorem OwnE.made (W:World):OwnE E (.slice (some ⟨W.heap.size,0,none⟩) 0 0) [] (W.alloc (.cells #[] E.T)) :=
 OwnE.mk (xs:=[]) (heap_alloc W _).1 (Nat.le_refl _) (by omega) (by simp) (by simp[flat])
theorem app_run {c:Nat} (ty:TypeId) (hO:OwnE E v xs w) (hR:RowE E w A ys) (hbytes:(xs.length+ys.length) * E.bys≤140737488355328) :
  ∃ v' w',(Builtin.append_ #[E.S,E.S] ty #[v,.slice A ys.length c]).run Tryz.prog w=.ok v' w'/\OwnE E v' (xs ++ ys) w'/\Keeps (foot v) w w'/\(foot v'=foot v∨foot v'=[w.heap.size]):=by
 obtain⟨i0,hi,hz0,hz1,hz2⟩:=info_parts E.info
 have hby:=E.hb
 have hn:xs.length+ys.length≤140737488355328:=Nat.le_trans (Nat.le_mul_of_pos_right _ (by omega)) hbytes
 cases A with
 | some ad =>
  obtain⟨v',w',h1,h2,h3,_,h5⟩:=run_append_own_at (P:=Tryz.prog) w 0 E.S ty E.T i0 _ E.k E.bys E.hS hi hz0 hz1 hz2 (by have:=congrArg List.length E.hz;rw[E.len] at this;simpa using this) E.pos v xs.length (flat E xs) hO ad ys.length c (flat E ys) (flat_len E ys) hR.news (flat_one E ys) (by unfold maxLen;omega) hbytes (Nat.zero_le _)
  refine⟨v',w',h1,?_,Keeps.grown h3,h5.imp (fun e=>by simp[foot,e]) fun h=>by simp[foot,h]⟩
  have:=h2
  rw[<- flat_append,<- List.length_append] at this
  exact this
 | none =>
  have hy:ys=[]:=by
   cases ys with
   | nil=>rfl
   | cons y ys=>obtain⟨ad,e,_⟩:=hR 0 (by simp);simp at e
  subst hy
  refine⟨v,w,?_,by simpa using hO,Keeps.refl _ _,.inl rfl⟩
  rcases hO.2 with ⟨rfl,hn⟩ | ⟨g,cap,cur,rfl,_,hg,hnc,_⟩
  ·simp[Builtin.append_,run_underlying E.hS,sizeOf,typeInfo,hi,Builtin.lenOf,Builtin.firstCells]
  ·simp[Builtin.append_,run_underlying E.hS,sizeOf,typeInfo,hi,Builtin.lenOf,Builtin.firstCells,storeCells,hnc]
end
end Go.Proofs.YtiebppkhaiofeaaGreat.K
