/- Part of the proof of TopPolicies: what functions of the program do. -/
import Derived.WalkKit
import Derived.MapKept
import Derived.ChangeMaps4
import Derived.Below
import Derived.Deep.Draws
import Derived.Deep.AppendLies
import Derived.Maps.AppendAt
import Derived.OwnWalk
import Derived.Laws.BytesArg
import Derived.Laws.MakeOwn
import Derived.Laws.OwnMore
import Derived.Deep.OwnRows
import Derived.Tactics
import Derived.Lib.ConvBytes
import Derived.Laws.Slices
import Derived.KernelRfl
import Derived.RowKit3
import Derived.Deep.LoopGhost
import Derived.Deep.QuietTactic
import Derived.BigQuiet
import Derived.WideLaws
import Derived.Deep.DeepCutAuto
import Derived.Deep.CutBlock
import Derived.Deep.RegionHeld3
import Derived.Laws.Rows
import Derived.Lib.AppendStr
import Derived.ArgAppend
import Derived.Laws.IdiomCopy
import Derived.RowKit
import Derived.Test.YtiebppkhaiofeaaGreatProg
import Derived.Deep.RegionLaw
import Derived.Deep.RegionWith
import Derived.Test.YtiebppkhaiofeaaGreatP00
set_option maxHeartbeats 4000000
set_option maxRecDepth 100000
set_option linter.unusedVariables false
set_option linter.unusedSimpArgs false
open Go.IntKind renaming i64→I
open Go.Value renaming slice→J, int→V, bool→aA
open Option renaming some→M, none→U
open Go.Obj renaming cells→O
open Go.ChangeMaps renaming setBlock→aB
open Go renaming Calls→bB, World→cA, bodyPost_ret→yA
open Go.Proofs.Tryz renaming prog→dA
open List renaming getElem?_eq_getElem→dB, mem_append→sA, mem_singleton→tA, replicate→uA, length_append→xA
open Go.RowKit.Below renaming refl→fA, drew→iA, setCell→oA
open Nat renaming le_trans→lB, le_refl→pA
open And renaming intro→qA
open Go.Proofs.YtiebppkhaiofeaaGreat (vB zB)
namespace Go.Proofs.YtiebppkhaiofeaaGreat.K
open Go.MapKept Go.ChangeMaps
def IM (es:Array MapEntry) (ck:Nat) (f:Int->Option Value):Prop :=
 Stamped es ck/\(∀ x∈es.toList,∃ k,x.key=V I k/\f k=M x.val)/\∀ k v,f k=M v->∃ x∈es.toList,x.key=V I k
def fput (f:Int->Option Value) (k:Int) (v:Value):Int->Option Value:=fun j=>if j=k then M v else f j
def fdel (f:Int->Option Value) (k:Int):Int->Option Value:=fun j=>if j=k then U else f j
section
variable {P:Program} {w:World} {t kt et:TypeId} {b:Nat} {es:Array MapEntry} {ck:Nat} {f:Int->Option Value}
theorem IM.empty:IM #[] 0 (fun _=>U):=⟨stamped_empty 0,zB,zB⟩
theorem isKey_int (k:Int):IsKey (.int .i64) (V I k):=by simp[IsKey]
theorem IM.keys (h:IM es ck f):∀ x∈es.toList,IsKey (.int .i64) x.key:=fun x hx=>by
 obtain⟨k,e,_⟩:=h.2.1 x hx
 rw[e];exact isKey_int k
theorem IM.find (h:IM es ck f) (k:Int):(f k=U/\Instr.findNow (.int .i64) (V I k) es.toList 0=M U/\∀ x∈es.toList,x.key≠V I k)∨∃ j e,f k=M e.val/\Instr.findNow (.int .i64) (V I k) es.toList 0=M (M (j,e.val))/\es[j]?=M e/\e.key=V I k:=by
 rcases findNow_spec (isKey_int k) es.toList 0 h.keys with ⟨h1,h2⟩ | ⟨j,e,h1,h2,h3⟩
 ·refine .inl ⟨?_,h1,h2⟩
  cases hf:f k with
  | none=>rfl
  | some v=>obtain⟨x,hx,e⟩:=h.2.2 k v hf;exact absurd e (h2 x hx)
 ·refine .inr ⟨j,e,?_,by simpa using h1,by simpa using h2,h3⟩
  obtain⟨k',e',hf⟩:=h.2.1 e (List.mem_of_getElem? h2)
  rw[h3] at e'
  injection e' with _ e'
  rw[e'];exact hf
theorem IM.pos (h:IM es ck f) {i j:Nat} {x y:MapEntry} (hi:es[i]?=M x) (hj:es[j]?=M y) (e:x.key=y.key):i=j:=by
 have hn:=h.1.2.2
 obtain⟨hi1,hi2⟩:=Array.getElem?_eq_some_iff.1 hi
 obtain⟨hj1,hj2⟩:=Array.getElem?_eq_some_iff.1 hj
 have:(es.toList.map (·.key))[i]'(by simpa using hi1)=(es.toList.map (·.key))[j]'(by simpa using hj1):=by simp[hi2,hj2,e]
 rcases Nat.lt_trichotomy i j with q | q | q
 ·exact absurd this (List.pairwise_iff_getElem.1 hn i j (by simpa using hi1) (by simpa using hj1) q)
 ·exact q
 ·exact absurd this.symm (List.pairwise_iff_getElem.1 hn j i (by simpa using hj1) (by simpa using hi1) q)
theorem IM.look (h:IM es ck f) (hb:w.heap[b]?=M (.map es ck)) (ht:P.underlying t=M (.map kt et)) (hk:P.underlying kt=M (.int .i64)) {z:Value} (hz:(zeroValue et).run P w=.ok z w) (k:Int) :
  (Instr.lookup t (.map (M b)) (V I k) false).run P w=.ok ((f k).getD z) w:=by
 rcases h.find k with ⟨h0,h1,h2⟩ | ⟨j,e,h0,h1,h2,h3⟩
 ·rw[h0]
  simp[Instr.lookup,run_underlying ht,MapKept.run_getObj_map hb,run_checkKey hk (isKey_int k),run_findKey hk h1,hz,Result.andThen]
 ·rw[h0]
  simp[Instr.lookup,run_underlying ht,MapKept.run_getObj_map hb,run_checkKey hk (isKey_int k),run_findKey hk h1,Result.andThen]
theorem IM.look2 (h:IM es ck f) (hb:w.heap[b]?=M (.map es ck)) (ht:P.underlying t=M (.map kt et)) (hk:P.underlying kt=M (.int .i64)) {z:Value} (hz:(zeroValue et).run P w=.ok z w) (k:Int) :
  (Instr.lookup t (.map (M b)) (V I k) true).run P w=.ok (.tuple #[(f k).getD z,aA (f k).isSome]) w:=by
 rcases h.find k with ⟨h0,h1,h2⟩ | ⟨j,e,h0,h1,h2,h3⟩
 ·rw[h0]
  simp[Instr.lookup,run_underlying ht,MapKept.run_getObj_map hb,run_checkKey hk (isKey_int k),run_findKey hk h1,hz,Result.andThen]
 ·rw[h0]
  simp[Instr.lookup,run_underlying ht,MapKept.run_getObj_map hb,run_checkKey hk (isKey_int k),run_findKey hk h1,Result.andThen]
theorem IM.put (h:IM es ck f) (hb:w.heap[b]?=M (.map es ck)) (ht:P.underlying t=M (.map kt et)) (hk:P.underlying kt=M (.int .i64)) (k:Int) (v:Value) :
  ∃ es' ck',(Instr.mapUpdate t (.map (M b)) (V I k) v).run P w=.ok () (aB w b (.map es' ck'))/\IM es' ck' (fput f k v):=by
 rcases h.find k with ⟨h0,h1,h2⟩ | ⟨j,e,h0,h1,h2,h3⟩
 ·refine⟨es.push { key:=V I k,val:=v,born:=ck },ck+1,?_,stamped_push h.1 h2,?_,?_⟩
  ·simp[Instr.mapUpdate,run_underlying ht,MapKept.run_getObj_map hb,run_checkKey hk (isKey_int k),run_findKey hk h1,MapKept.run_setObj_map _ hb,Result.andThen,aB]
  ·intro x hx
   simp only[Array.toList_push,sA,tA] at hx
   rcases hx with hx | rfl
   ·obtain⟨k',e',hf⟩:=h.2.1 x hx
    refine⟨k',e',?_⟩
    unfold fput
    rw[if_neg (fun q=>h2 x hx (by rw[e',q]))];exact hf
   ·exact⟨k,rfl,by simp[fput]⟩
  ·intro k' v' hf
   unfold fput at hf
   by_cases q:k'=k
   ·subst q;exact⟨{ key:=V I k',val:=v,born:=ck },zB,rfl⟩
   ·rw[if_neg q] at hf
    obtain⟨x,hx,e⟩:=h.2.2 k' v' hf
    exact⟨x,by rw[Array.toList_push];exact List.mem_append_left _ hx,e⟩
 ·have hkey:∀ e',es[j]?=M e'->({ e' with key:=V I k,val:=v }:MapEntry).key=e'.key:=fun e' he'=>by rw[h2] at he';cases he';exact h3.symm
  have hlt:j < es.size:=(Array.getElem?_eq_some_iff.1 h2).1
  have hej:es[j]=e:=(Array.getElem?_eq_some_iff.1 h2).2
  have hmem:∀ x,x∈(es.modify j fun e=>{ e with key:=V I k,val:=v }).toList↔(x∈es.toList/\x.key≠V I k)∨x={ e with key:=V I k,val:=v }:=by
   intro x
   simp only[Array.mem_toList_iff,Array.mem_iff_getElem?,Array.getElem?_modify]
   constructor
   ·rintro⟨i,hi⟩
    by_cases q:j=i
    ·subst q
     rw[if_pos rfl,h2] at hi
     simp at hi
     exact .inr hi.symm
    ·rw[if_neg q] at hi
     refine .inl ⟨⟨i,hi⟩,fun e'=>q ?_⟩
     exact h.pos h2 hi (h3.trans e'.symm)
   ·rintro(⟨⟨i,hi⟩,hne⟩ | rfl)
    ·by_cases q:j=i
     ·subst q;rw[h2] at hi;cases hi;exact absurd h3 hne
     ·exact⟨i,by rw[if_neg q];exact hi⟩
    ·exact⟨j,by rw[if_pos rfl,h2];rfl⟩
  refine⟨es.modify j fun e=>{ e with key:=V I k,val:=v },ck,?_,stamped_modify h.1 _ _ (fun _ _=>rfl) (fun e' _ he'=>hkey e' he'),?_,?_⟩
  ·simp[Instr.mapUpdate,run_underlying ht,MapKept.run_getObj_map hb,run_checkKey hk (isKey_int k),run_findKey hk h1,h2,h3,run_keyThatStays (isKey_int k),MapKept.run_setObj_map _ hb,Result.andThen,aB]
  ·intro x hx
   rcases(hmem x).1 hx with ⟨hx,hne⟩ | rfl
   ·obtain⟨k',e',hf⟩:=h.2.1 x hx
    refine⟨k',e',?_⟩
    unfold fput
    rw[if_neg (fun q=>hne (by rw[e',q]))];exact hf
   ·exact⟨k,rfl,by simp[fput]⟩
  ·intro k' v' hf
   unfold fput at hf
   by_cases q:k'=k
   ·subst q;exact⟨_,(hmem _).2 (.inr rfl),rfl⟩
   ·rw[if_neg q] at hf
    obtain⟨x,hx,e'⟩:=h.2.2 k' v' hf
    exact⟨x,(hmem x).2 (.inl ⟨hx,by rw[e'];intro e2;injection e2 with _ e2;exact q e2⟩),e'⟩
theorem IM.del (h:IM es ck f) (hb:w.heap[b]?=M (.map es ck)) (ht:P.underlying t=M (.map kt et)) (hk:P.underlying kt=M (.int .i64)) (k:Int) (at_ ty:TypeId) :
  ∃ es',(Builtin.delete_ #[t,at_] ty #[.map (M b),V I k]).run P w=.ok (.tuple #[]) (aB w b (.map es' ck))/\IM es' ck (fdel f k):=by
 rcases h.find k with ⟨h0,h1,h2⟩ | ⟨j,e,h0,h1,h2,h3⟩
 ·refine⟨es,?_,h.1,?_,?_⟩
  ·simp[Builtin.delete_,run_underlying ht,MapKept.run_getObj_map hb,run_checkKey hk (isKey_int k),run_findKey hk h1,MapKept.run_setObj_map _ hb,Result.andThen,aB]
  ·intro x hx
   obtain⟨k',e',hf⟩:=h.2.1 x hx
   exact⟨k',e',by unfold fdel;rw[if_neg (fun q=>h2 x hx (by rw[e',q]))];exact hf⟩
  ·intro k' v hf
   unfold fdel at hf
   by_cases q:k'=k
   ·rw[if_pos q] at hf;cases hf
   ·rw[if_neg q] at hf;exact h.2.2 k' v hf
 ·have hlt:j < es.size:=(Array.getElem?_eq_some_iff.1 h2).1
  refine⟨es.eraseIdxIfInBounds j,?_,stamped_erase h.1 j,?_,?_⟩
  ·simp[Builtin.delete_,run_underlying ht,MapKept.run_getObj_map hb,run_checkKey hk (isKey_int k),run_findKey hk h1,MapKept.run_setObj_map _ hb,Result.andThen,aB]
  ·have hl:(es.eraseIdxIfInBounds j).toList=es.toList.eraseIdx j:=by unfold Array.eraseIdxIfInBounds;rw[dif_pos hlt];simp
   intro x hx
   rw[hl] at hx
   obtain⟨i,hi,hix⟩:=List.mem_eraseIdx_iff_getElem?.1 hx
   obtain⟨k',e',hf⟩:=h.2.1 x (List.mem_of_getElem? hix)
   refine⟨k',e',?_⟩
   unfold fdel
   rw[if_neg]
   ·exact hf
   ·intro q
    refine hi (h.pos (x:=x) (y:=e) (by simpa using hix) h2 (by rw[e',h3,q]))
  ·intro k' v hf
   unfold fdel at hf
   by_cases q:k'=k
   ·rw[if_pos q] at hf;cases hf
   ·rw[if_neg q] at hf
    obtain⟨x,hx,e'⟩:=h.2.2 k' v hf
    refine⟨x,?_,e'⟩
    have hl:(es.eraseIdxIfInBounds j).toList=es.toList.eraseIdx j:=by unfold Array.eraseIdxIfInBounds;rw[dif_pos hlt];simp
    rw[hl]
    obtain⟨i,hi⟩:=List.getElem?_of_mem hx
    refine List.mem_eraseIdx_iff_getElem?.2 ⟨i,?_,hi⟩
    rintro rfl
    have:es[i]?=M x:=by simpa using hi
    rw[h2] at this
    cases this
    rw[h3] at e'
    injection e' with _ e'
    exact q e'.symm
theorem set_at (hb:w.heap[b]?=M (.map es ck)) (o:Obj):(aB w b o).heap[b]?=M o:=(heap_set hb).1
theorem set_far (hb:w.heap[b]?=M (.map es ck)) (o:Obj) {i:Nat} (hi:i≠b):(aB w b o).heap[i]?=w.heap[i]?:=(heap_set hb).2 i hi
end
end Go.Proofs.YtiebppkhaiofeaaGreat.K
namespace Go.Proofs.YtiebppkhaiofeaaGreatW.PrintWords
open Go.RowKit
structure Aside0 (p:Prop):Prop where mk :: (out:p)
def rd (xs:List Int) (i:Int):Int:=xs.getD i.toNat 0
def bt (s:ByteArray) (i:Int):Int:=if h:i.toNat < s.size then ((s[i.toNat]'h).toNat:Int) else 0
theorem below_alloc {w W:World} (h:Below w.heap.size w W) (o:Obj):Below w.heap.size w (W.alloc o):=h.alloc h.size o
theorem blk_set {w:World} {g:Nat} {t:TypeId} {cs:Array Value} (h:w.heap[g]?=M (O cs t (0,0))) (i:Nat) (u:Value):(w.setCell ⟨g,i,U⟩ u).heap[g]?=M (O (cs.setIfInBounds i u) t (0,0)):=by
 simp[World.setCell,Array.getElem?_modify,h]
theorem blk_far {w:World} {g:Nat} {t:TypeId} {cs:Array Value} (h:w.heap[g]?=M (O cs t (0,0))) {p:Addr} (hp:g≠p.block) (u:Value):(w.setCell p u).heap[g]?=M (O cs t (0,0)):=(Below.heap_setCell w p u g hp).trans h
theorem blk_lt {w:World} {g:Nat} {o:Obj} (h:w.heap[g]?=M o):g < w.heap.size:=(Array.getElem?_eq_some_iff.1 h).1
theorem blk_cell {w:World} {g:Nat} {t:TypeId} {cs:Array Value} (h:w.heap[g]?=M (O cs t (0,0))) (i:Nat):w.cell? ⟨g,i,U⟩=cs[i]?:=cell_of_row w g i cs t (0,0) h
theorem blk_frozen {w:World} {g:Nat} {t:TypeId} {cs:Array Value} (h:w.heap[g]?=M (O cs t (0,0))) (i:Nat):w.frozen? ⟨g,i,U⟩=false:=by simp[World.frozen?,h]
section
variable {α:Type} {enc:α->Value} {d:α}
def encs (enc:α->Value) (xs:List α):List Value:=xs.map enc
end
theorem blk_alloc {w:World} {g:Nat} {o:Obj} (h:w.heap[g]?=M o) (o':Obj):(w.alloc o').heap[g]?=M o:=(Below.heap_alloc w o' g (blk_lt h)).trans h
theorem blk_drew {w:World} {g:Nat} {o:Obj} (h:w.heap[g]?=M o):w.drew.heap[g]?=M o:=h
theorem blk_drewN {w:World} {g:Nat} {o:Obj} (h:w.heap[g]?=M o) (n:Nat):(w.drewN n).heap[g]?=M o:=h
theorem blk_below {w w1:World} {g:Nat} {o:Obj} (h:w.heap[g]?=M o) (hb:Below w.heap.size w w1):w1.heap[g]?=M o:=(hb.block g (blk_lt h)).trans h
theorem blk_new (w:World) (o:Obj):(w.alloc o).heap[w.heap.size]?=M o:=heap_alloc_new w o
namespace Kd
end Kd
namespace Kd
end Kd
namespace Kd
end Kd
namespace Kd
end Kd
namespace Kd
end Kd
namespace Kd
end Kd
namespace Kd
end Kd
namespace Kd
end Kd
namespace Kd
end Kd
namespace Kd
end Kd
theorem add_add (a:Addr) (i j:Nat):(a.add i).add j=a.add (i+j):=by
 unfold Addr.add
 by_cases h1:i=0 <;> by_cases h2:j=0 <;> simp[h1,h2,Nat.add_assoc]
namespace Kd
end Kd
namespace Kd
end Kd
namespace Kd
end Kd
namespace Kd
end Kd
namespace Kd
end Kd
section
variable {P:Program} {ops:Array Oper} {o:Oper} {a:Act} {Q:Exit->Act->World->Prop} {Kc:Act->World->Prop}
namespace Kd
variable {α:Type}
end Kd
end
namespace Kd
end Kd
theorem AS {p:Prop} (h:p):Aside0 p:=⟨h⟩
theorem cw {w:World} {g:Nat} {t:TypeId} {cs:Array Value} (h:w.heap[g]?=M (O cs t (0,0))) (i:Nat) {v:Value} (e:cs[i]?=M v:=by rfl):w.cell? ⟨g,i,U⟩=M v:=(blk_cell h i).trans e
end Go.Proofs.YtiebppkhaiofeaaGreatW.PrintWords
namespace Go.Proofs.YtiebppkhaiofeaaGreat.K
open Go.RowKit Go.Proofs.YtiebppkhaiofeaaGreatW.PrintWords Go.ChangeMaps Go.MapKept
def Keeps (F:List Nat) (w w':World):Prop:=w'.os=w.os/\w'.tape=w.tape/\w'.output=w.output/\w.heap.size≤w'.heap.size/\∀ i,i < w.heap.size->i∉F->w'.heap[i]?=w.heap[i]?
section
variable {F G:List Nat} {w w' a b c W:World}
theorem Keeps.refl (F:List Nat) (w:World):Keeps F w w:=⟨rfl,rfl,rfl,pA _,fun _ _ _=>rfl⟩
theorem Keeps.size (h:Keeps F w w'):w.heap.size≤w'.heap.size:=h.2.2.2.1
theorem Keeps.at_ (h:Keeps F w w') {i:Nat} {o:Obj} (hi:w.heap[i]?=M o) (hF:i∉F):w'.heap[i]?=M o:=(h.2.2.2.2 i (blk_lt hi) hF).trans hi
theorem Keeps.mono (h:Keeps F w w') (hs:∀ x∈F,x∈G∨w.heap.size≤x):Keeps G w w' :=
 ⟨h.1,h.2.1,h.2.2.1,h.2.2.2.1,fun i hi hG=>h.2.2.2.2 i hi (fun hF=>by rcases hs i hF with h1 | h1;exact hG h1;omega)⟩
theorem Keeps.trans (h:Keeps F a b) (k:Keeps G b c) (hs:∀ x∈G,x∈F∨a.heap.size≤x):Keeps F a c :=
 ⟨k.1.trans h.1,k.2.1.trans h.2.1,k.2.2.1.trans h.2.2.1,lB h.size k.size,fun i hi hF=>(k.2.2.2.2 i (Nat.lt_of_lt_of_le hi h.size) (fun hG=>by rcases hs i hG with h1 | h1;exact hF h1;omega)).trans (h.2.2.2.2 i hi hF)⟩
theorem Keeps.below (F:List Nat) (h:Below w.heap.size w w'):Keeps F w w':=⟨h.os,h.tape,h.output,h.size,fun i hi _=>h.block i hi⟩
theorem Keeps.toBelow {B:Nat} (h:Keeps F w w') (hF:∀ x∈F,B≤x) (hs:B≤w.heap.size):Below B w w' :=
 ⟨h.1,h.2.1,h.2.2.1,h.2.2.2.1,fun i hi=>h.2.2.2.2 i vB (fun hx=>by have:=hF i hx;omega)⟩
theorem Keeps.nil (h:Keeps [] w w'):Below w.heap.size w w':=h.toBelow zB (pA _)
theorem Keeps.set (h:Keeps F w W) {g:Nat} (hg:g∈F∨w.heap.size≤g) (i:Nat) (u:Value):Keeps F w (W.setCell ⟨g,i,U⟩ u) :=
 ⟨h.1,h.2.1,h.2.2.1,by simpa using h.2.2.2.1,fun j hj hF=>(Below.heap_setCell W ⟨g,i,U⟩ u j (show j≠g by rintro rfl;rcases hg with h1 | h1;exact hF h1;omega)).trans (h.2.2.2.2 j hj hF)⟩
theorem Keeps.block (h:Keeps F w W) {g:Nat} (hg:g∈F∨w.heap.size≤g) (o:Obj):Keeps F w (aB W g o) :=
 ⟨h.1,h.2.1,h.2.2.1,by simpa [aB] using h.2.2.2.1,fun j hj hF=>by
  have hne:j≠g:=by rintro rfl;rcases hg with h1 | h1;exact hF h1;omega
  show(W.heap.setIfInBounds g o)[j]?=_
  rw[Array.getElem?_setIfInBounds_ne (Ne.symm hne)]
  exact h.2.2.2.2 j hj hF⟩
theorem Keeps.alloc (h:Keeps F w W) (o:Obj):Keeps F w (W.alloc o):=h.trans (Keeps.below [] (below_alloc (fA _ _) o)) zB
theorem Keeps.drew (h:Keeps F w W):Keeps F w W.drew:=h
theorem Keeps.drewN (h:Keeps F w W) (n:Nat):Keeps F w (W.drewN n):=h
theorem Keeps.grown {r:Option Nat} (h:w.grownBy w' r):Keeps r.toList w w':=⟨h.os,h.tape,h.output,h.size,fun i hi hr=>h.block i hi (by rintro rfl;simp at hr)⟩
end
def foot (v:Value):List Nat:=v.ownBlock.toList
theorem foot_slice (g o n c:Nat):foot (J (M ⟨g,o,U⟩) n c)=[g]:=rfl
theorem foot_nil (n c:Nat):foot (J U n c)=[]:=rfl
structure El (α:Type) where
 f:α->List Value
 d:α
 k:Nat
 T:TypeId
 S:TypeId
 bys:Nat
 z:Value
 len:∀ a,(f a).length=k
 one:∀ a,∀ u∈f a,u.oneCell'=true
 pos:0 < k
 hS:Tryz.prog.underlying S=M (.slice T)
 info:(Tryz.prog.info? T).map (fun i=>(i.zero,i.size,i.bytes))=M (M z,k,bys)
 hz:z.cells.toList=f d
 hb:1≤bys
section
variable {α:Type} (E:El α)
def flat (xs:List α):List Value:=xs.flatMap E.f
theorem flat_cons (x:α) (xs:List α):flat E (x :: xs)=E.f x ++ flat E xs:=rfl
theorem flat_append (xs ys:List α):flat E (xs ++ ys)=flat E xs ++ flat E ys:=by simp[flat]
theorem flat_len (xs:List α):(flat E xs).length=xs.length * E.k:=by
 induction xs with
 | nil=>simp[flat]
 | cons x xs ih=>rw[flat_cons,xA,E.len,ih,List.length_cons,Nat.add_mul];omega
theorem flat_one (xs:List α):∀ u∈flat E xs,u.oneCell'=true:=by
 intro u hu
 obtain⟨x,_,hx⟩:=List.mem_flatMap.1 hu
 exact E.one x u hx
theorem flat_get (xs:List α):∀ (i j:Nat),i < xs.length->j < E.k->(flat E xs)[i * E.k+j]?=(E.f (xs.getD i E.d))[j]?:=by
 induction xs with
 | nil=>intro i j hi;simp at hi
 | cons x xs ih =>
  intro i j hi hj
  rw[flat_cons]
  cases i with
  | zero =>
   rw[List.getElem?_append_left (by rw[E.len];omega)]
   simp
  | succ i =>
   rw[List.getElem?_append_right (by rw[E.len,Nat.add_mul];omega),E.len,show(i+1) * E.k+j - E.k=i * E.k+j by rw[Nat.add_mul];omega,ih i j (by simpa using hi) hj]
   simp
theorem flat_take (xs:List α) (i:Nat) (h:i≤xs.length):(flat E xs).take (i * E.k)=flat E (xs.take i):=by
 conv=>lhs;rw[<- List.take_append_drop i xs,flat_append]
 rw[List.take_left' (by rw[flat_len,List.length_take,Nat.min_eq_left h])]
theorem flat_drop (xs:List α) (i:Nat) (h:i≤xs.length):(flat E xs).drop (i * E.k)=flat E (xs.drop i):=by
 conv=>lhs;rw[<- List.take_append_drop i xs,flat_append]
 rw[List.drop_left' (by rw[flat_len,List.length_take,Nat.min_eq_left h])]
def RowE (W:World) (A:Option Addr) (xs:List α):Prop:=∀ i,i < xs.length->∃ ad,A=M ad/\∀ j,j < E.k->W.cell? (ad.add (i * E.k+j))=(E.f (xs.getD i E.d))[j]?
def OwnE (v:Value) (xs:List α) (W:World):Prop:=W.ownsRow 0 E.T E.k v xs.length (flat E xs)
variable {E} {xs ys:List α} {v:Value} {W W' w:World} {A:Option Addr}
theorem RowE.below (h:RowE E W A xs) (hb:Below W.heap.size W W'):RowE E W' A xs:=by
 intro i hi
 obtain⟨ad,e,hc⟩:=h i hi
 refine⟨ad,e,fun j hj=>?_⟩
 have h1:=hc j hj
 have h2:(E.f (xs.getD i E.d))[j]?=M ((E.f (xs.getD i E.d))[j]'(by rw[E.len];exact hj)):=dB _
 rw[h2] at h1 ⊢
 exact(hb.cell (World.block_lt_of_cell? W _ h1)).trans h1
theorem RowE.news {ad:Addr} (h:RowE E W (M ad) xs):∀ j u,(flat E xs)[j]?=M u->W.cell? (ad.add j)=M u:=by
 intro j u hu
 have hj:j < xs.length * E.k:=by rw[<- flat_len];exact(List.getElem?_eq_some_iff.1 hu).1
 have hp:=E.pos
 have hd:j / E.k < xs.length:=Nat.div_lt_of_lt_mul (by rw[Nat.mul_comm];exact hj)
 obtain⟨ad',e,hc⟩:=h (j / E.k) hd
 injection e with e
 subst e
 have h1:=hc (j % E.k) (Nat.mod_lt _ hp)
 have e:j / E.k * E.k+j % E.k=j:=by rw[Nat.mul_comm];exact Nat.div_add_mod j E.k
 rw[e] at h1
 rw[h1,<- flat_get E xs (j / E.k) (j % E.k) hd (Nat.mod_lt _ hp),e,hu]
theorem OwnE.nil (W:World):OwnE E (J U 0 0) [] W:=World.ownsRow_nil _ _ _ _
theorem OwnE.cases (h:OwnE E v xs W):(v=J U 0 0/\xs=[])∨∃ g cap cur,v=J (M ⟨g,0,U⟩) xs.length cap/\W.heap[g]?=M (O cur E.T (0,0))/\xs.length≤cap/\cap≤9223372036854775807/\cur.size=cap * E.k/\cur.toList.take (xs.length * E.k)=flat E xs:=by
 rcases h.2 with ⟨e,hn⟩ | ⟨g,cap,cur,e,_,hg,hnc,hm,hs,ht⟩
 ·exact .inl ⟨e,List.eq_nil_of_length_eq_zero hn⟩
 ·exact .inr ⟨g,cap,cur,e,hg,hnc,by unfold maxLen at hm;omega,hs,ht⟩
theorem OwnE.mk {g cap:Nat} {cur:Array Value} (hg:W.heap[g]?=M (O cur E.T (0,0))) (h1:xs.length≤cap) (h2:cap≤9223372036854775807) (h3:cur.size=cap * E.k) (h4:cur.toList.take (xs.length * E.k)=flat E xs):OwnE E (J (M ⟨g,0,U⟩) xs.length cap) xs W :=
 ⟨by rw[flat_len],.inr ⟨g,cap,cur,rfl,Nat.zero_le _,hg,h1,by unfold maxLen;omega,h3,h4⟩⟩
theorem OwnE.row (h:OwnE E v xs W):∃ A c,v=J A xs.length c/\RowE E W A xs/\xs.length≤c/\c≤9223372036854775807/\(A=U->xs=[]):=by
 rcases h.cases with ⟨rfl,rfl⟩ | ⟨g,cap,cur,rfl,hg,hnc,hm,_⟩
 ·exact⟨U,0,rfl,fun i hi=>by simp at hi,pA _,vB,fun _=>rfl⟩
 ·refine⟨_,cap,rfl,fun i hi=>⟨_,rfl,fun j hj=>?_⟩,hnc,hm,fun e=>by simp at e⟩
  have hlt:i * E.k+j < (flat E xs).length:=by
   rw[flat_len]
   have:i * E.k+E.k≤xs.length * E.k:=by rw[<- Nat.succ_mul];exact Nat.mul_le_mul_right _ hi
   omega
  have:=World.ownsRow.cells h (g:=g) rfl (i * E.k+j) _ (dB hlt)
  rw[this,<- dB hlt,flat_get E xs i j hi hj]
theorem OwnE.lt (h:OwnE E v xs W):∀ b∈foot v,b < W.heap.size:=by
 intro b hb
 have hb':v.ownBlock=M b:=by simpa [foot] using hb
 exact(World.ownsRow.lt h b hb').2
theorem OwnE.at_ (h:OwnE E v xs W) (hk:∀ b∈foot v,W'.heap[b]?=W.heap[b]?):OwnE E v xs W':=by
 rcases h.cases with ⟨rfl,rfl⟩ | ⟨g,cap,cur,rfl,hg,r⟩
 ·exact OwnE.nil _
 ·exact OwnE.mk ((hk g (by simp[foot_slice])).trans hg) r.1 r.2.1 r.2.2.1 r.2.2.2
theorem OwnE.keep {F:List Nat} (h:OwnE E v xs W) (hk:Keeps F W W') (hF:∀ b∈foot v,b∉F):OwnE E v xs W':=h.at_ fun b hb=>hk.2.2.2.2 b (h.lt b hb) (hF b hb)
theorem OwnE.made (W:World):OwnE E (J (M ⟨W.heap.size,0,U⟩) 0 0) [] (W.alloc (O #[] E.T)) :=
 OwnE.mk (xs:=[]) (heap_alloc W _).1 (pA _) vB zB (by simp[flat])
theorem app_run {c:Nat} (ty:TypeId) (hO:OwnE E v xs w) (hR:RowE E w A ys) (hbytes:(xs.length+ys.length) * E.bys≤140737488355328) :
  ∃ v' w',(Builtin.append_ #[E.S,E.S] ty #[v,J A ys.length c]).run dA w=.ok v' w'/\OwnE E v' (xs ++ ys) w'/\Keeps (foot v) w w'/\(foot v'=foot v∨foot v'=[w.heap.size]):=by
 obtain⟨i0,hi,hz0,hz1,hz2⟩:=info_parts E.info
 have hby:=E.hb
 have hn:xs.length+ys.length≤140737488355328:=lB (Nat.le_mul_of_pos_right _ vB) hbytes
 cases A with
 | some ad =>
  obtain⟨v',w',h1,h2,h3,_,h5⟩:=run_append_own_at (P:=dA) w 0 E.S ty E.T i0 _ E.k E.bys E.hS hi hz0 hz1 hz2 (by have:=congrArg List.length E.hz;rw[E.len] at this;simpa using this) E.pos v xs.length (flat E xs) hO ad ys.length c (flat E ys) (flat_len E ys) hR.news (flat_one E ys) (by unfold maxLen;omega) hbytes (Nat.zero_le _)
  refine⟨v',w',h1,?_,Keeps.grown h3,h5.imp (fun e=>by simp[foot,e]) fun h=>by simp[foot,h]⟩
  have:=h2
  rw[<- flat_append,<- xA] at this
  exact this
 | none =>
  have hy:ys=[]:=by
   cases ys with
   | nil=>rfl
   | cons y ys=>obtain⟨ad,e,_⟩:=hR 0 zB;simp at e
  subst hy
  refine⟨v,w,?_,by simpa using hO,Keeps.refl _ _,.inl rfl⟩
  rcases hO.2 with ⟨rfl,hn⟩ | ⟨g,cap,cur,rfl,_,hg,hnc,_⟩
  ·simp[Builtin.append_,run_underlying E.hS,sizeOf,typeInfo,hi,Builtin.lenOf,Builtin.firstCells]
  ·simp[Builtin.append_,run_underlying E.hS,sizeOf,typeInfo,hi,Builtin.lenOf,Builtin.firstCells,storeCells,hnc]
end
end Go.Proofs.YtiebppkhaiofeaaGreat.K
namespace Go.Proofs.YtiebppkhaiofeaaGreat.S
open Go.RowKit (wrap64)
structure Cfg where
 nodes:Int
 blocks:Int
 tokens:Int
 sets:Int
 ways:Int
 cap:Int
 wait:Int
 tries:Int
 policy:Int
structure Bun where
 count:Int
 owner:Bool
 has:Bool
 data:Int
structure Let where
 kind:Int
 src:Int
 dst:Int
 block:Int
 seq:Int
 who:Int
 write:Bool
 bun:Bun
structure Op where
 block:Int
 write:Bool
 value:Int
structure Done where
 node:Int
 number:Int
 op:Op
 value:Int
 step:Int
structure Line where
 block:Int
 bun:Bun
structure Act where
 block:Int
 node:Int
 seq:Int
structure Ent where
 kind:Int
 a:Int
 b:Int
 c:Int
 d:Int
def b0:Bun:=⟨0,false,false,0⟩
def let0:Let:=⟨0,0,0,0,0,0,false,b0⟩
def op0:Op:=⟨0,false,0⟩
def act0:Act:=⟨0,0,0⟩
def clamp (n lo hi:Int):Int:=max (min n hi) lo
def imod (n m:Int):Int:=if m < 1 then 0 else if n.tmod m < 0 then n.tmod m+m else n.tmod m
def bitOf (n at_:Int):Bool:=decide (0≤at_) && decide (at_ < 64) && (Go.bits .and .u64 (IntKind.u64.wrap n / 2 ^ at_.toNat) 1 == 1)
def dblN:Nat->Int->Int->Int
 | 0,n,most=>min n most
 | t+1,n,most=>if n > most - n then most else dblN t (n+n) most
def double (n times most:Int):Int:=dblN (min (max times 0) 64).toNat (max n 0) (max most 0)
def Bun.check (b:Bun) (tokens:Int):Int :=
 if b.count < 0∨b.count > tokens then 4
 else if b.count=0/\(b.owner∨b.has) then 5
 else if (b.owner/\¬ b.has)∨(¬ b.has/\b.data≠0) then 6 else 0
def full (tokens data:Int):Bun:=if tokens < 1 then b0 else ⟨tokens,true,true,data⟩
def valued (count:Int) (owner has:Bool) (data:Int):Bun:=⟨count,owner,has,if has then data else 0⟩
def splitM (h:Bun) (n:Int) (ow data:Bool):Bun×Bun :=
 if n < 1 then (b0,h)
 else (valued n ow (h.has && (data || ow)) h.data,if n < h.count then valued (wrap64 (h.count - n)) (h.owner && !ow) h.has h.data else b0)
def splitK (h:Bun) (n:Int) (owner data:Bool):Bun×Bun :=
 if owner && h.owner && decide (0 < n) then splitM h n true data
 else if h.owner then splitM h (min n (wrap64 (h.count - 1))) false data else splitM h n false data
def split (h:Bun) (count:Int) (owner data:Bool):Bun×Bun:=splitK h (clamp count 0 (max h.count 0)) owner data
def join (h b:Bun):Bun:=valued (wrap64 (h.count+b.count)) (h.owner || b.owner) (h.has || b.has) (if b.has then b.data else h.data)
def reads (h:Bun):Bool:=decide (h.count≥1) && h.has
def writes (h:Bun) (tokens:Int):Bool:=reads h && h.count == tokens
def doOp (op:Op) (h:Bun) (tokens:Int):Bun×Int×Bool :=
 if op.write && writes h tokens then ({ h with data:=op.value },op.value,true)
 else if !op.write && reads h then (h,h.data,true) else (h,0,false)
def within (n lo hi:Int):Bool:=decide (n≥lo) && decide (n≤hi)
def Cfg.check (c:Cfg):Int :=
 if !within c.sets 1 64 || !within c.ways 1 16 || !within c.cap 1 65536 || !within c.wait 1 64 || !within c.tries 0 8 || !within c.policy 0 2 then 1
 else if !within c.nodes 1 64 then 2 else if !within c.blocks 1 64 then 3 else if !within c.tokens c.nodes 65536 then 4 else 0
def endOk (c:Cfg) (at_:Int) (home node:Bool):Bool:=(home && at_ == c.nodes) || (node && decide (at_≥0) && decide (at_ < c.nodes))
structure KRow where
 fromHome:Bool
 fromNode:Bool
 toHome:Bool
 toNode:Bool
 seq:Bool
 who:Bool
 write:Bool
 tokens:Bool
def kr0:KRow:=⟨false,false,false,false,false,false,false,false⟩
def rowsK (k:Int):KRow :=
 if k=1 then ⟨true,true,true,true,false,false,false,true⟩ else if k=2 then ⟨false,true,true,true,false,false,true,false⟩
 else if k=3 then ⟨false,true,true,false,false,false,false,false⟩ else if k=4 then ⟨true,false,false,true,true,true,false,false⟩
 else if k=5 then ⟨false,true,true,false,true,false,false,false⟩ else if k=6 then ⟨true,false,false,true,true,false,false,false⟩
 else if k=7 then ⟨false,true,true,false,true,false,false,false⟩ else kr0
def formOk (c:Cfg) (l:Let) (r:KRow):Bool :=
 ((r.seq && decide (l.seq≥1)) || (!r.seq && l.seq == 0)) && ((r.who && endOk c l.who false true) || (!r.who && l.who == 0)) && (r.write || !l.write)
def Let.check (c:Cfg) (l:Let):Int :=
 if l.kind < 1∨l.kind > 7 then 7
 else if l.block < 0∨l.block≥c.blocks then 3
 else if l.src=l.dst∨endOk c l.src (rowsK l.kind).fromHome (rowsK l.kind).fromNode=false∨endOk c l.dst (rowsK l.kind).toHome (rowsK l.kind).toNode=false then 8
 else if formOk c l (rowsK l.kind)=false then 10
 else if (rowsK l.kind).tokens=false then (if l.bun.count=0/\l.bun.owner=false/\l.bun.has=false/\l.bun.data=0 then 0 else 6)
 else if l.bun.check c.tokens≠0∨l.bun.count > 0 then l.bun.check c.tokens else 4
def tokensL (src dst block:Int) (b:Bun):Let:=⟨1,src,dst,block,0,0,false,b⟩
def spread (kind src block seq who nodes:Int):List Let:=(List.range (max (min nodes 64) 0).toNat).map fun(i:Nat)=>⟨kind,src,i,block,seq,who,false,b0⟩
def Ent.legal (c:Cfg) (e:Ent):Bool :=
 if e.kind=1 then decide (e.a≥0) && decide (e.a < c.nodes) && decide (e.b≥0) && decide (e.b < c.blocks) && (e.c == 0 || e.c == 1)
 else if e.kind=2∨e.kind=3 then decide (e.a≥0) else e.kind == 4
def Ent.op (e:Ent):Op:=⟨e.b,e.c == 1,if e.c == 1 then e.d else 0⟩
structure Proc where
 left:Int
 tried:Int
 over:Bool
 number:Int
 op:Op
 busy:Bool
def Proc.new:Proc:=⟨0,0,false,0,op0,false⟩
def Proc.issue (c:Cfg) (p:Proc) (op:Op):Proc×Bool:=if p.busy then (p,false) else (⟨max c.wait 1,0,false,wrap64 (p.number+1),op,true⟩,true)
def Proc.finish (p:Proc):Proc×Int×Bool:=if p.busy then ({ p with op:=op0,busy:=false },p.number,true) else (p,0,false)
def Proc.tick (c:Cfg) (p:Proc):Proc×Int :=
 if !p.busy then (p,0) else if p.over then (p,0) else if p.left > 1 then ({ p with left:=wrap64 (p.left - 1)},0)
 else if p.tried < c.tries then ({ p with tried:=wrap64 (p.tried+1),left:=max (double c.wait (wrap64 (p.tried+1)) 1048576) 1 },1)
 else ({ p with left:=0,over:=true },2)
def Proc.pinned (p:Proc):Int:=if p.busy then p.op.block else -1
structure Drw where
 x:Int
 y:Int
 z:Int
def Drw.get (d:Drw) (i:Int):Int:=if i=0 then d.x else if i=1 then d.y else d.z
def asks (c:Cfg) (d:Drw) (n:Int):Bool:=c.policy == 1 || (c.policy == 2 && bitOf (d.get (n.tdiv 64)) (n.tmod 64))
def targets (c:Cfg) (self:Int) (d:Drw):List Int :=
 if c.nodes > 64 then [] else ((List.range (c.nodes+1).toNat).map fun(i:Nat)=>(i:Int)).filter fun n=>asks c d n && n != self
def reply (policy:Int) (h:Bun) (write:Bool) (d:Drw):Int×Bool×Bool :=
 if policy=2 then (d.x,bitOf d.y 0,bitOf d.y 1) else if policy≠1 then (0,false,false)
 else if write then (h.count,true,h.owner) else if h.owner then (1,decide (h.count < 2),true) else (0,false,false)
structure Cache where
 rows:Int->List Int
 tok:Int->Bun
def upd {α:Type} (f:Int->α) (k:Int) (v:α):Int->α:=fun j=>if j=k then v else f j
namespace Cache
variable (c:Cfg) (s:Cache)
def new:Cache:=⟨fun _=>[],fun _=>b0⟩
def row (b:Int):List Int:=s.rows (imod b c.sets)
def has (b:Int):Bool:=(s.row c b).contains b
def add (b:Int):Cache×Bool :=
 if b < 0∨s.has c b=true∨((s.row c b).length:Int)≥c.ways then (s,false) else ({ s with rows:=upd s.rows (imod b c.sets) (s.row c b ++ [b])},true)
def remove (b:Int):Cache×Bool :=
 if s.has c b then ({ s with rows:=upd s.rows (imod b c.sets) ((s.row c b).erase b)},true) else (s,false)
def use (b:Int):Cache×Bool:=if (s.remove c b).2 then (s.remove c b).1.add c b else ((s.remove c b).1,false)
def victim (b pinned:Int):Int×Bool :=
 if b < 0 then (-1,false) else if s.has c b=true∨((s.row c b).length:Int) < c.ways then (-1,true)
 else match (s.row c b).find? (fun x=>x != pinned) with | some x=>(x,true) | none=>(-1,false)
def get (b:Int):Bun:=s.tok b
def lose (b:Int):Cache×Bun:=(({ s with tok:=upd s.tok b b0 }:Cache).remove c b |>.1,s.tok b)
def absorb (b:Int) (t:Bun) (pinned:Int):Cache×Option Line :=
 if t.count < 1 then (s,U)
 else if (s.use c b).2 then ({ (s.use c b).1 with tok:=upd s.tok b (join (s.tok b) t)},U)
 else
  let c1:=(s.use c b).1
  let v:=c1.victim c b pinned
  if !v.2 then (c1,M ⟨b,t⟩)
  else if c1.has c v.1 then
   let p:=c1.lose c v.1
   ({ (p.1.add c b).1 with tok:=upd p.1.tok b t },M ⟨v.1,p.2⟩)
  else ({ (c1.add c b).1 with tok:=upd c1.tok b t },U)
def take (b count:Int) (owner data:Bool):Cache×Bun :=
 let p:=split (s.tok b) count owner data
 if p.2.count > 0 then ({ s with tok:=upd s.tok b p.2 },p.1) else ((s.lose c b).1,p.1)
def doIt (op:Op):Cache×Int×Bool :=
 let r:=doOp op (s.tok op.block) c.tokens
 if r.2.2 then ((({ s with tok:=upd s.tok op.block r.1 }:Cache).use c op.block).1,r.2) else (s,r.2)
end Cache
structure Table where
 act:Int->Option Act
 over:Int->Int
namespace Table
variable (t:Table)
def new:Table:=⟨fun _=>U,fun _=>0⟩
def seqOf (b:Int):Int:=match t.act b with | some a=>a.seq | none=>0
def activate (a:Act):Table×Bool :=
 if a.seq < 1∨a.seq≤t.over a.block∨a.seq≤t.seqOf a.block then (t,false) else ({ t with act:=upd t.act a.block (M a)},true)
def deactivate (b s:Int):Table :=
 { over:=upd t.over b (max (t.over b) s),act:=match t.act b with | some a=>if a.seq≤s then upd t.act b U else t.act | none=>t.act }
end Table
structure ARow where
 seq:Int
 active:Act
 on:Bool
 ending:Bool
 knows:List Bool
 queue:List Int
def ar0:ARow:=⟨0,act0,false,false,uA 64 false,[]⟩
structure Arb where
 nodes:Int
 rows:List ARow
namespace Arb
variable (a:Arb)
def new (nodes blocks:Int):Arb:=⟨min (max nodes 0) 64,uA (min (max blocks 0) 64).toNat ar0⟩
def row (b:Int):ARow:=a.rows.getD b.toNat ar0
def is (b n:Int):Bool:=decide (b≥0) && decide (b < a.rows.length) && decide (n≥0) && decide (n < a.nodes)
def setRow (b:Int) (r:ARow):Arb:={ a with rows:=a.rows.set b.toNat r }
def next (b:Int):Arb×Option Act :=
 let r:=a.row b
 if r.on∨r.ending then (a,U) else match r.queue with
  | []=>(a,U)
  | n :: q=>(a.setRow b { r with seq:=wrap64 (r.seq+1),active:=⟨b,n,wrap64 (r.seq+1)⟩,on:=true,queue:=q },M ⟨b,n,wrap64 (r.seq+1)⟩)
def ask (b n:Int):Arb×Option Act:=if a.is b n then (a.setRow b { a.row b with queue:=(a.row b).queue ++ [n]}).next b else (a,U)
def done (b s:Int):Arb×Bool :=
 if b < 0∨b≥a.rows.length then (a,false) else if !(a.row b).on || (a.row b).active.seq != s then (a,false)
 else (a.setRow b { a.row b with on:=false,ending:=true,knows:=uA 64 false },true)
def ack (b s n:Int):Arb×Option Act :=
 if !a.is b n then (a,U) else if !(a.row b).ending || (a.row b).active.seq != s then (a,U)
 else
  let k:=(a.row b).knows.set n.toNat true
  if k≠(List.range 64).map (fun(i:Nat)=>decide ((i:Int) < a.nodes)) then (a.setRow b { a.row b with knows:=k },U)
  else (a.setRow b { a.row b with knows:=k,ending:=false }).next b
def current (b:Int):Option Act:=if b < 0∨b≥a.rows.length∨(a.row b).on=false then U else M (a.row b).active
end Arb
structure Node where
 id:Int
 lines:Cache
 know:Table
 cpu:Proc
 asked:Int->Bool
 told:Int->Int
structure Out where
 letters:List Let
 done:List Done
def out0:Out:=⟨[],[]⟩
def Out.send (o:Out) (l:Let):Out:={ o with letters:=o.letters ++ [l]}
namespace Node
variable (c:Cfg) (n:Node)
def new (id:Int):Node:=⟨id,Cache.new,Table.new,Proc.new,fun _=>false,fun _=>0⟩
def own (b:Int):Option Act:=match n.know.act b with | some a=>if a.node=n.id then M a else U | none=>U
def other (b:Int):Option Int:=match n.know.act b with | some a=>if a.node=n.id then U else M a.node | none=>U
def home (kind block seq:Int):Let:=⟨kind,n.id,c.nodes,block,seq,0,false,b0⟩
def end_ (b:Int) (o:Out):Node×Out:=match n.own b with
 | none=>(n,o)
 | some a=>if a.seq≤n.told b then (n,o) else ({ n with told:=upd n.told b a.seq,asked:=upd n.asked b false },o.send (n.home c 5 b a.seq))
def settle (o:Out):Node×Out :=
 if !n.cpu.busy then (n,o) else
  let r:=n.lines.doIt c n.cpu.op
  if !r.2.2 then (n,o) else
   let f:=n.cpu.finish
   ({ n with lines:=r.1,cpu:=f.1 }:Node).end_ c n.cpu.op.block { o with done:=o.done ++ [(⟨n.id,f.2.1,n.cpu.op,r.2.1,0⟩:Done)]}
def ask (op:Op) (d:Drw) (o:Out):Out:={ o with letters:=o.letters ++ (targets c n.id d).map fun to_=>(⟨2,n.id,to_,op.block,0,0,op.write,b0⟩:Let)}
def issue (op:Op) (d:Drw):Node×Out×Bool :=
 if op.block < 0∨op.block≥c.blocks then (n,out0,false) else
  let p:=n.cpu.issue c op
  if !p.2 then (n,out0,false) else
   let r:=({ n with cpu:=p.1 }:Node).settle c out0
   (r.1,if r.1.cpu.busy then r.1.ask c op d r.2 else r.2,true)
def tokens (l:Let) (o:Out):Node×Out:=match n.other l.block with
 | some to_=>(n,o.send (tokensL n.id to_ l.block l.bun))
 | none =>
  let r:=n.lines.absorb c l.block l.bun n.cpu.pinned
  ({ n with lines:=r.1 }:Node).settle c (match r.2 with | some g=>o.send (tokensL n.id c.nodes g.block g.bun) | none=>o)
def asks (l:Let) (d:Drw) (o:Out):Node×Out :=
 if (n.own l.block).isSome/\n.cpu.pinned=l.block then (n,o) else
  let p:=reply c.policy (n.lines.get l.block) l.write d
  let r:=n.lines.take c l.block p.1 p.2.1 p.2.2
  ({ n with lines:=r.1 },if r.2.count > 0 then o.send (tokensL n.id l.src l.block r.2) else o)
def activate (l:Let) (o:Out):Node×Out :=
 let r:=n.know.activate ⟨l.block,l.who,l.seq⟩
 if !r.2 then (n,o) else
  let n1:Node:={ n with know:=r.1 }
  if l.who=n.id then (if n1.cpu.pinned≠l.block then n1.end_ c l.block o else (n1,o)) else
   let t:=n1.lines.take c l.block (n1.lines.get l.block).count true true
   ({ n1 with lines:=t.1 },if t.2.count > 0 then o.send (tokensL n.id l.who l.block t.2) else o)
def deactivate (l:Let) (o:Out):Node×Out:=({ n with know:=n.know.deactivate l.block l.seq },o.send (n.home c 7 l.block l.seq))
def take (l:Let) (d:Drw):Node×Out :=
 if l.check c≠0∨l.dst≠n.id then (n,out0)
 else if l.kind=1 then n.tokens c l out0 else if l.kind=2 then n.asks c l d out0 else if l.kind=4 then n.activate c l out0 else if l.kind=6 then n.deactivate c l out0 else (n,out0)
def tick (d:Drw):Node×Out :=
 let t:=n.cpu.tick c
 let n1:={ n with cpu:=t.1 }
 if t.2=1 then (n1,n1.ask c n.cpu.op d out0)
 else if t.2=2 then (if n.asked n.cpu.op.block then (n1,out0) else ({ n1 with asked:=upd n.asked n.cpu.op.block true },out0.send (n.home c 3 n.cpu.op.block 0)))
 else (n1,out0)
end Node
structure Home where
 mem:List Bun
 queue:Arb
namespace Home
variable (c:Cfg) (h:Home)
def new:Home:=⟨uA (clamp c.blocks 0 64).toNat (full c.tokens 0),Arb.new c.nodes c.blocks⟩
def is (b:Int):Bool:=decide (b≥0) && decide (b < h.mem.length)
def get (b:Int):Bun:=if h.is b then h.mem.getD b.toNat b0 else b0
def put (b:Int) (t:Bun):Home:=if h.is b then { h with mem:=h.mem.set b.toNat (join (h.get b) t)} else h
def memTake (b count:Int) (owner data:Bool):Home×Bun :=
 if h.is b then ({ h with mem:=h.mem.set b.toNat (split (h.get b) count owner data).2 },(split (h.get b) count owner data).1) else (h,b0)
def tokens (to_ block:Int) (b:Bun):List Let:=if b.count < 1 then [] else [tokensL c.nodes to_ block b]
def begin_ (r:Arb×Option Act):Home×List Let:=match r.2 with
 | none=>({ h with queue:=r.1 },[])
 | some a =>
  let t:=({ h with queue:=r.1 }:Home).memTake a.block (h.get a.block).count true true
  (t.1,spread 4 c.nodes a.block a.seq a.node c.nodes ++ tokens c a.node a.block t.2)
def take (l:Let) (d:Drw):Home×List Let :=
 if l.check c≠0∨l.dst≠c.nodes then (h,[])
 else if l.kind=1 then (match h.queue.current l.block with | some a=>(h,tokens c a.node l.block l.bun) | none=>(h.put l.block l.bun,[]))
 else if l.kind=2 then
  let p:=reply c.policy (h.get l.block) l.write d
  let t:=h.memTake l.block p.1 p.2.1 p.2.2
  (t.1,tokens c l.src l.block t.2)
 else if l.kind=3 then h.begin_ c (h.queue.ask l.block l.src)
 else if l.kind=5 then
  let r:=h.queue.done l.block l.seq
  ({ h with queue:=r.1 },if r.2 then spread 6 c.nodes l.block l.seq 0 c.nodes else [])
 else if l.kind=7 then h.begin_ c (h.queue.ack l.block l.seq l.src)
 else (h,[])
end Home
structure World where
 steps:Int
 ticks:Int
 nodes:List Node
 home:Home
 way:List Let
namespace World
variable (c:Cfg) (w:World)
def new:World:=⟨0,0,(List.range c.nodes.toNat).map fun(i:Nat)=>Node.new i,Home.new c,[]⟩
def node (i:Int):Node:=w.nodes.getD i.toNat (Node.new i)
def acts (e:Ent):Bool×World×List Let×List Done :=
 if e.kind=1 then
  let r:=(w.node e.a).issue c e.op ⟨0,0,0⟩
  (r.2.2,{ w with nodes:=w.nodes.set e.a.toNat r.1 },r.2.1.letters,r.2.1.done)
 else if e.kind=2 then
  if h:0≤e.a/\e.a < w.way.length then
   let l:=w.way.getD e.a.toNat let0
   let w1:={ w with way:=w.way.eraseIdx e.a.toNat }
   if l.dst=c.nodes then
    let r:=w.home.take c l ⟨e.b,e.c,e.d⟩
    (true,{ w1 with home:=r.1 },r.2,[])
   else
    let r:=(w.node l.dst).take c l ⟨e.b,e.c,e.d⟩
    (true,{ w1 with nodes:=w.nodes.set l.dst.toNat r.1 },r.2.letters,r.2.done)
  else (false,w,[],[])
 else if e.kind=3 then
  if 0≤e.a/\e.a < w.way.length/\(w.way.getD e.a.toNat let0).kind=2 then (true,{ w with way:=w.way.eraseIdx e.a.toNat },[],[]) else (false,w,[],[])
 else
  let rs:=w.nodes.map fun(n:Node)=>n.tick c ⟨e.b,e.c,e.d⟩
  (true,{ w with ticks:=wrap64 (w.ticks+1),nodes:=rs.map (·.1)},rs.flatMap (·.2.letters),rs.flatMap (·.2.done))
def step (e:Ent):World×Int×List Done :=
 let w0:={ w with steps:=wrap64 (w.steps+1)}
 if !e.legal c then (w0,0,[])
 else
  let r:=w0.acts c e
  if !r.1 then (r.2.1,0,[])
  else if (r.2.2.1.length:Int) > c.cap - r.2.1.way.length then (w0,2,[])
  else ({ r.2.1 with way:=r.2.1.way ++ r.2.2.1 },1,r.2.2.2.map fun d=>{ d with step:=w0.steps })
end World
end Go.Proofs.YtiebppkhaiofeaaGreat.S
namespace Go.Proofs.YtiebppkhaiofeaaGreat.K
open Go.RowKit Go.Proofs.YtiebppkhaiofeaaGreatW.PrintWords Go.Proofs.YtiebppkhaiofeaaGreat.S
def RV (v:Value) (w:cA) (e:Ending) (w':cA):Prop:=e=.returned v/\Below w.heap.size w w'
theorem RV.of {v v':Value} {w w':cA} (h:v=v') (hb:Below w.heap.size w w'):RV v' w (.returned v) w':=⟨by rw[h],hb⟩
def RQ (v:Value) (w:cA) (e:Ending) (w':cA):Prop:=e=.returned v/\w=w'
theorem RQ.of {v v':Value} {w:cA} (h:v=v'):RQ v' w (.returned v) w:=⟨by rw[h],rfl⟩
theorem bcell {W w1:cA} (hb:Below W.heap.size W w1):(∀ b o,b < W.heap.size->w1.cell? ⟨b,o,U⟩=W.cell? ⟨b,o,U⟩)/\(∀ b o,b < W.heap.size->w1.frozen? ⟨b,o,U⟩=W.frozen? ⟨b,o,U⟩) :=
 ⟨fun b o h=>hb.cell (p:=⟨b,o,U⟩) h,fun b o h=>hb.frozen (p:=⟨b,o,U⟩) h⟩
def bunC (b:Bun):List Value:=[V I b.count,aA b.owner,aA b.has,V I b.data]
def bunV (b:Bun):Value:=.agg #[V I b.count,aA b.owner,aA b.has,V I b.data]
theorem tmod_lo (n m:Int) (h:1≤m) : -m < n.tmod m/\n.tmod m < m:=⟨by have:=Int.lt_tmod_of_pos n (show 0 < m by omega);omega,Int.tmod_lt_of_pos n vB⟩
theorem clamp_any (n:Int) (lo:Int) (hi:Int) (w:cA):bB dA 73 #[V I n,V I lo,V I hi] w (RQ (V I (clamp n lo hi)) w):=by
 go_enter Tryz.func73,Tryz.ntmps73
 go_wp2
 all_goals
  go_ret
  exact RQ.of (by simp[clamp];omega)
theorem mod_any (n:Int) (m:Int) (w:cA) (h1:1≤m) (h2:m≤64):bB dA 179 #[V I n,V I m] w (RQ (V I (imod n m)) w):=by
 have q1:¬ m < 1:=vB
 have ht:=AS (tmod_lo n m h1)
 go_enter Tryz.func179,Tryz.ntmps179
 go_wp2
 ·rename_i hneg
  go_ret
  refine RQ.of ?_
  have h9:=ht.out.1
  show Value.int .i64 _=_
  rw[imod,if_neg (show ¬ m < 1 by omega),if_pos hneg];congr 1;unfold wrap64;omega
 ·rename_i hneg
  go_ret
  refine RQ.of ?_
  show Value.int .i64 _=_
  rw[imod,if_neg (show ¬ m < 1 by omega),if_neg (show ¬ n.tmod m < 0 by omega)]
theorem bit_any (n:Int) (k:Int) (w:cA):bB dA 144 #[V I n,V I k] w (RQ (aA (bitOf n k)) w):=by
 go_enter Tryz.func144,Tryz.ntmps144
 go_wp2
 all_goals
  go_ret
  exact RQ.of (by simp[bitOf, *] <;> omega)
theorem full_any (t d:Int) (w:cA):bB dA 74 #[V I t,V I d] w (RV (bunV (full t d)) w):=by
 by_cases ht:t < 1
 ·rw[show full t d=b0 from if_pos ht]
  go_enter Tryz.func74,Tryz.ntmps74
  go_wp2
  exact yA (v:=bunV b0) (by simp[results,Tryz.results74,go_sem,bunV,b0]) rfl ⟨rfl,below_alloc (fA _ _) _⟩
 ·rw[show full t d=⟨t,true,true,d⟩ from if_neg ht]
  go_enter Tryz.func74,Tryz.ntmps74
  go_wp2
  exact yA (v:=bunV ⟨t,true,true,d⟩) (by simp[results,Tryz.results74,go_sem,bunV]) rfl ⟨rfl,below_alloc (fA _ _) _⟩
def ValuedP (n:Int) (o hz:Bool) (d:Int) (w:cA) (e:Ending) (w':cA):Prop:=e=.returned (.agg #[V I n,aA o,aA hz,V I (if hz then d else 0)])/\(w.alloc (O #[V I n,aA o,aA hz,V I (if hz then d else 0)] 45)).alloc (O #[V I n,aA o,aA hz,V I (if hz then d else 0)] 45)=w'
theorem valued_any (n:Int) (o hz:Bool) (d:Int) (w:cA):bB dA 162 #[V I n,aA o,aA hz,V I d] w (ValuedP n o hz d w):=by
 cases hz
 ·go_enter Tryz.func162,Tryz.ntmps162
  go_wp2
  exact yA (v:=.agg #[V I n,aA o,aA false,V I 0]) (by simp[results,Tryz.results162,go_sem]) rfl ⟨rfl,rfl⟩
 ·go_enter Tryz.func162,Tryz.ntmps162
  go_wp2
  exact yA (v:=.agg #[V I n,aA o,aA true,V I d]) (by simp[results,Tryz.results162,go_sem]) rfl ⟨rfl,rfl⟩
def letC (l:Let):List Value:=[V I l.kind,V I l.src,V I l.dst,V I l.block,V I l.seq,V I l.who,aA l.write,V I l.bun.count,aA l.bun.owner,aA l.bun.has,V I l.bun.data]
def letV (l:Let):Value:=.agg #[V I l.kind,V I l.src,V I l.dst,V I l.block,V I l.seq,V I l.who,aA l.write,V I l.bun.count,aA l.bun.owner,aA l.bun.has,V I l.bun.data]
def opV (o:S.Op):Value:=.agg #[V I o.block,aA o.write,V I o.value]
def cfgV (c:Cfg):Value:=.agg #[V I c.nodes,V I c.blocks,V I c.tokens,V I c.sets,V I c.ways,V I c.cap,V I c.wait,V I c.tries,V I c.policy]
theorem reads_any (c:Int) (o h:Bool) (d:Int) (w:cA):bB dA 160 #[.agg #[V I c,aA o,aA h,V I d]] w (RV (aA (reads ⟨c,o,h,d⟩)) w):=by
 go_enter Tryz.func160,Tryz.ntmps160
 go_wp2
 all_goals
  go_ret
  exact RV.of (by simp[reads, *] <;> omega) (by repeat (first | exact fA _ _ | assumption | apply below_alloc))
theorem writes_any (c:Int) (o h:Bool) (d t:Int) (w:cA):bB dA 159 #[.agg #[V I c,aA o,aA h,V I d],V I t] w (RV (aA (writes ⟨c,o,h,d⟩ t)) w):=by
 go_enter Tryz.func159,Tryz.ntmps159
 go_wp2_with fail
 refine(reads_any c o h d _).mono ?_
 rintro e w1 ⟨rfl,hb⟩
 obtain⟨hcl,hfr⟩:=bcell hb
 have HB:=AS hb
 clear hb
 cases hr:reads ⟨c,o,h,d⟩
 all_goals
  go_wp2
  all_goals
   go_ret
   exact RV.of (by simp[writes,hr]) ((below_alloc (fA _ _) _).trans (HB.out.mono zB))
theorem bcheck_any (c:Int) (o h:Bool) (d t:Int) (w:cA):bB dA 117 #[.agg #[V I c,aA o,aA h,V I d],V I t] w (RV (V I (Bun.check ⟨c,o,h,d⟩ t)) w):=by
 go_enter Tryz.func117,Tryz.ntmps117
 go_wp2
 all_goals
  go_ret
  exact RV.of (by unfold Bun.check;(repeat' split) <;> first | rfl | (exfalso;simp_all;done) | (exfalso;simp_all;omega)) (by repeat (first | exact fA _ _ | assumption | apply below_alloc))
theorem tokens_any (f t b c:Int) (o h:Bool) (d:Int) (w:cA):bB dA 130 #[V I f,V I t,V I b,.agg #[V I c,aA o,aA h,V I d]] w (RV (letV (tokensL f t b ⟨c,o,h,d⟩)) w):=by
 go_enter Tryz.func130,Tryz.ntmps130
 go_wp2
 exact yA (v:=letV (tokensL f t b ⟨c,o,h,d⟩)) (by simp[results,Tryz.results130,go_sem,letV,tokensL]) rfl ⟨rfl,by repeat (first | exact fA _ _ | assumption | apply below_alloc)⟩
theorem op_any (k a b c d:Int) (w:cA):bB dA 55 #[.agg #[V I k,V I a,V I b,V I c,V I d]] w (RV (opV (Ent.op ⟨k,a,b,c,d⟩)) w):=by
 by_cases hc:c=1
 ·rw[show Ent.op ⟨k,a,b,c,d⟩=⟨b,true,d⟩ by simp[Ent.op,hc]]
  have h1:(c == 1)=true:=by simp[hc]
  go_enter Tryz.func55,Tryz.ntmps55
  go_wp2
  exact yA (v:=opV ⟨b,true,d⟩) (by simp[results,Tryz.results55,go_sem,opV]) rfl ⟨rfl,by repeat (first | exact fA _ _ | assumption | apply below_alloc)⟩
 ·rw[show Ent.op ⟨k,a,b,c,d⟩=⟨b,false,0⟩ by simp[Ent.op,hc]]
  have h1:(c == 1)=false:=by simp[hc]
  go_enter Tryz.func55,Tryz.ntmps55
  go_wp2
  exact yA (v:=opV ⟨b,false,0⟩) (by simp[results,Tryz.results55,go_sem,opV]) rfl ⟨rfl,by repeat (first | exact fA _ _ | assumption | apply below_alloc)⟩
theorem drops_any (l:Let) (w:cA):bB dA 62 #[letV l] w (RV (aA (l.kind == 2)) w):=by
 obtain⟨k,f,t,b,q,wh,wr,⟨c,o,h,d⟩⟩:=l
 simp only[letV]
 go_enter Tryz.func62,Tryz.ntmps62
 go_wp2
 go_ret
 exact RV.of rfl (by repeat (first | exact fA _ _ | assumption | apply below_alloc))
theorem within_any (n lo hi:Int) (w:cA):bB dA 45 #[V I n,V I lo,V I hi] w (RQ (aA (within n lo hi)) w):=by
 go_enter Tryz.func45,Tryz.ntmps45
 go_wp2
 all_goals
  go_ret
  exact RQ.of (by simp[within, *] <;> omega)
theorem join_any (hc:Int) (ho hh:Bool) (hd bc:Int) (bo bh:Bool) (bd:Int) (w:cA):bB dA 146 #[.agg #[V I hc,aA ho,aA hh,V I hd],.agg #[V I bc,aA bo,aA bh,V I bd]] w (RV (bunV (join ⟨hc,ho,hh,hd⟩ ⟨bc,bo,bh,bd⟩)) w):=by
 cases bh <;> cases ho <;> cases hh
 all_goals
  go_enter Tryz.func146,Tryz.ntmps146
  go_wp2_with fail
  refine(valued_any _ _ _ _ _).mono ?_
  rintro e w1 ⟨rfl,rfl⟩
  go_wp2
  exact yA (v:=bunV (join ⟨hc,_,_,hd⟩ ⟨bc,bo,_,bd⟩)) (by simp[results,Tryz.results146,go_sem,bunV,join,valued]) rfl ⟨rfl,by repeat (first | exact fA _ _ | assumption | apply below_alloc)⟩
theorem bfin {w W0 w1:cA} (h0:Below w.heap.size w W0) (h:Below W0.heap.size W0 w1):Below w.heap.size w w1:=h0.trans (h.mono h0.size)
def doV (r:Bun×Int×Bool):Value:=.tuple #[bunV r.1,V I r.2.1,aA r.2.2]
theorem do_any (bl:Int) (wr:Bool) (v c:Int) (o h:Bool) (d t:Int) (w:cA):bB dA 142 #[.agg #[V I bl,aA wr,V I v],.agg #[V I c,aA o,aA h,V I d],V I t] w (RV (doV (doOp ⟨bl,wr,v⟩ ⟨c,o,h,d⟩ t)) w):=by
 cases wr
 ·cases hr:reads ⟨c,o,h,d⟩
  ·rw[show doOp ⟨bl,false,v⟩ ⟨c,o,h,d⟩ t=(⟨c,o,h,d⟩,0,false) by simp[doOp,hr]]
   go_enter Tryz.func142,Tryz.ntmps142
   go_wp2_with fail
   refine(reads_any _ _ _ _ _).mono ?_
   rintro e w1 ⟨rfl,hb⟩
   rw[hr]
   obtain⟨hcl,hfr⟩:=bcell hb
   have B1:=AS hb
   clear hb
   go_wp2
   all_goals (try go_region)
   all_goals (try go_wp2)
   exact yA (v:=doV (⟨c,o,h,d⟩,0,false)) (by simp[results,Tryz.results142,go_sem,bunV,doV,hcl,hfr]) rfl ⟨rfl,by repeat (first | exact fA _ _ | apply below_alloc | apply iA | refine oA ?_ (by dsimp only;omega) _ | exact bfin (by repeat (first | exact fA _ _ | apply below_alloc)) B1.out)⟩
  ·rw[show doOp ⟨bl,false,v⟩ ⟨c,o,h,d⟩ t=(⟨c,o,h,d⟩,d,true) by simp[doOp,hr]]
   go_enter Tryz.func142,Tryz.ntmps142
   go_wp2_with fail
   refine(reads_any _ _ _ _ _).mono ?_
   rintro e w1 ⟨rfl,hb⟩
   rw[hr]
   obtain⟨hcl,hfr⟩:=bcell hb
   have B1:=AS hb
   clear hb
   go_wp2
   all_goals (try go_region)
   all_goals (try go_wp2)
   exact yA (v:=doV (⟨c,o,h,d⟩,d,true)) (by simp[results,Tryz.results142,go_sem,bunV,doV,hcl,hfr]) rfl ⟨rfl,by repeat (first | exact fA _ _ | apply below_alloc | apply iA | refine oA ?_ (by dsimp only;omega) _ | exact bfin (by repeat (first | exact fA _ _ | apply below_alloc)) B1.out)⟩
 ·cases hr:writes ⟨c,o,h,d⟩ t
  ·rw[show doOp ⟨bl,true,v⟩ ⟨c,o,h,d⟩ t=(⟨c,o,h,d⟩,0,false) by simp[doOp,hr]]
   go_enter Tryz.func142,Tryz.ntmps142
   go_wp2_with fail
   refine(writes_any _ _ _ _ _ _).mono ?_
   rintro e w1 ⟨rfl,hb⟩
   rw[hr]
   obtain⟨hcl,hfr⟩:=bcell hb
   have B1:=AS hb
   clear hb
   go_wp2
   all_goals (try go_region)
   all_goals (try go_wp2)
   exact yA (v:=doV (⟨c,o,h,d⟩,0,false)) (by simp[results,Tryz.results142,go_sem,bunV,doV,hcl,hfr]) rfl ⟨rfl,by repeat (first | exact fA _ _ | apply below_alloc | apply iA | refine oA ?_ (by dsimp only;omega) _ | exact bfin (by repeat (first | exact fA _ _ | apply below_alloc)) B1.out)⟩
  ·rw[show doOp ⟨bl,true,v⟩ ⟨c,o,h,d⟩ t=(⟨c,o,h,v⟩,v,true) by simp[doOp,hr]]
   go_enter Tryz.func142,Tryz.ntmps142
   go_wp2_with fail
   refine(writes_any _ _ _ _ _ _).mono ?_
   rintro e w1 ⟨rfl,hb⟩
   rw[hr]
   obtain⟨hcl,hfr⟩:=bcell hb
   have B1:=AS hb
   clear hb
   go_wp2
   all_goals (try go_region)
   all_goals (try go_wp2)
   exact yA (v:=doV (⟨c,o,h,v⟩,v,true)) (by simp[results,Tryz.results142,go_sem,bunV,doV,hcl,hfr]) rfl ⟨rfl,by repeat (first | exact fA _ _ | apply below_alloc | apply iA | refine oA ?_ (by dsimp only;omega) _ | exact bfin (by repeat (first | exact fA _ _ | apply below_alloc)) B1.out)⟩
theorem start_any (x:Int) (w:cA):bB dA 109 #[V I x] w (RV (.agg #[V I (max x 1),V I 0,aA false]) w):=by
 go_enter Tryz.func109,Tryz.ntmps109
 go_wp2
 all_goals exact yA (v:=.agg #[V I (max x 1),V I 0,aA false]) (by simp[results,Tryz.results109,go_sem];try omega) rfl ⟨rfl,by repeat (first | exact fA _ _ | assumption | apply below_alloc)⟩
end Go.Proofs.YtiebppkhaiofeaaGreat.K
namespace Go.Proofs.YtiebppkhaiofeaaGreat.K
open Go.RowKit Go.Proofs.YtiebppkhaiofeaaGreatW.PrintWords
variable {α:Type} {E:El α}
theorem list_appE {ops:Array Oper} {rest:List Oper} {o:Oper} {a:Act} {Q:Exit->Act->World->Prop} {w:World} (hw:Region.wanted o (yielded ops a.tmps)=true) (s x:Operand)
  (ho:o.op=.call { callee:=.builtin .append,args:=#[s,x],argTypes:=#[E.S,E.S]}) {v:Value} {xs ys:List α} {A:Option Addr} {m c:Nat}
  (hs:a.eval s=v) (hx:a.eval x=J A m c) (hm:m=ys.length) (hO:OwnE E v xs w) (hR:RowE E w A ys) (hbytes:(xs.length+ys.length) * E.bys≤140737488355328)
  (h:∀ v' w',OwnE E v' (xs ++ ys) w'->Keeps (foot v) w w'->(foot v'=foot v∨foot v'=[w.heap.size])->wpList dA ops Q rest (a.put o.dst v') w'):wpList dA ops Q (o :: rest) a w:=by
 subst hm
 refine wpList_step fun K hK=>?_
 rw[if_pos hw]
 obtain⟨v',w',hr,h2,h3,h4⟩:=app_run o.type hO hR (c:=c) hbytes
 unfold Oper.wp execOp
 simp only[ho,resolve,invoke,builtin,Sem.run_bind,Sem.run_pure,Result.andThen_ok,List.map_toArray,List.map_cons,List.map_nil,hs,hx,hr]
 exact hK _ _ (h v' w' h2 h3 h4)
theorem step_appE {ops:Array Oper} {o:Oper} {a:Act} {K:Act->World->Prop} {Q:Exit->Act->World->Prop} {w:World} {D:Prop} (hgd:o.guard=U) (s x:Operand)
  (ho:o.op=.call { callee:=.builtin .append,args:=#[s,x],argTypes:=#[E.S,E.S]}) {v:Value} {xs ys:List α} {A:Option Addr} {m c:Nat}
  (hs:a.eval s=v) (hx:a.eval x=J A m c) (hm:m=ys.length) (hO:OwnE E v xs w) (hR:RowE E w A ys) (hbytes:(xs.length+ys.length) * E.bys≤140737488355328)
  (h:∀ v' w',OwnE E v' (xs ++ ys) w'->Keeps (foot v) w w'->(foot v'=foot v∨foot v'=[w.heap.size])->K (a.put o.dst v') w') :
  if Region.wanted o (yielded ops a.tmps)=true then Oper.wp dA o a w K Q else D:=by
 subst hm
 have hw:Region.wanted o (yielded ops a.tmps)=true:=by simp[Region.wanted,hgd]
 rw[if_pos hw]
 obtain⟨v',w',hr,h2,h3,h4⟩:=app_run o.type hO hR (c:=c) hbytes
 unfold Oper.wp execOp
 simp only[ho,resolve,invoke,builtin,Sem.run_bind,Sem.run_pure,Result.andThen_ok,List.map_toArray,List.map_cons,List.map_nil,hs,hx,hr]
 exact h v' w' h2 h3 h4
theorem rowE_one {w:World} {x:α} {b:Nat} {T:TypeId} (h:w.heap[b]?=M (O (E.f x).toArray T (0,0))):RowE E w (M ⟨b,0,U⟩) [x]:=by
 intro i hi
 have hi0:i=0:=by simp at hi;omega
 subst hi0
 refine⟨_,rfl,fun j hj=>?_⟩
 have:=blk_cell h j
 simp only[Nat.zero_mul,Nat.zero_add,List.getD_cons_zero]
 rw[Addr.add_lit,Nat.zero_add,this]
 simp
end Go.Proofs.YtiebppkhaiofeaaGreat.K
namespace Go.Proofs.YtiebppkhaiofeaaGreat.K
open Go.RowKit Go.Proofs.YtiebppkhaiofeaaGreatW.PrintWords Go.Proofs.YtiebppkhaiofeaaGreat.S
theorem frz_alloc' {w:cA} {b i:Nat} (h:b < w.heap.size) (o:Obj):(w.alloc o).frozen? ⟨b,i,U⟩=w.frozen? ⟨b,i,U⟩:=(below_alloc (fA _ w) o).frozen (p:=⟨b,i,U⟩) h
attribute [local go_sem] World.cell?_alloc_some frz_alloc'
theorem info47:(Tryz.prog.info? 47).map (fun i=>(i.zero,i.size,i.bytes))=M (M (.agg #[V I 0,V I 0,V I 0,V I 0,V I 0,V I 0,aA false,V I 0,aA false,aA false,V I 0]),11,80):=by kernel_rfl
def letE:El Let where
 f:=letC
 d:=let0
 k:=11
 T:=47
 S:=39
 bys:=80
 z:=.agg #[V I 0,V I 0,V I 0,V I 0,V I 0,V I 0,aA false,V I 0,aA false,aA false,V I 0]
 len:=fun _=>rfl
 one:=by
  intro l u hu
  simp only[letC,List.mem_cons,List.not_mem_nil,or_false] at hu
  rcases hu with rfl | rfl | rfl | rfl | rfl | rfl | rfl | rfl | rfl | rfl | rfl <;> rfl
 pos:=by decide
 hS:=Tryz.underlying39
 info:=info47
 hz:=rfl
 hb:=by decide
def spN (k s b q wh:Int) (n:Nat):List Let:=(List.range n).map fun(i:Nat)=>⟨k,s,i,b,q,wh,false,b0⟩
def entV (e:Ent):Value:=.agg #[V I e.kind,V I e.a,V I e.b,V I e.c,V I e.d]
def drwV (d:Drw):Value:=.agg #[V I d.x,V I d.y,V I d.z]
def repV (r:Int×Bool×Bool):Value:=.tuple #[V I r.1,aA r.2.1,aA r.2.2]
theorem legal_any (c:Cfg) (e:Ent) (w:cA):bB dA 25 #[cfgV c,entV e] w (RV (aA (e.legal c)) w):=by
 obtain⟨nn,b,t,se,wa,ca,wt,tr,po⟩:=c
 obtain⟨k,a,eb,ec,ed⟩:=e
 simp only[cfgV,entV]
 have hk:k=1∨k=2∨k=3∨(k≠1/\k≠2/\k≠3):=vB
 rcases hk with rfl | rfl | rfl | ⟨k1,k2,k3⟩
 case inr.inr.inr =>
  have j1:(k == 1)=false:=by simpa using k1
  have j2:(k == 2)=false:=by simpa using k2
  have j3:(k == 3)=false:=by simpa using k3
  have K:=AS (qA k1 (qA k2 k3))
  clear k1 k2 k3
  go_enter Tryz.func25,Tryz.ntmps25
  go_wp2
  go_ret
  exact RV.of (by have h:=K.out;simp[Ent.legal,h.1,h.2.1,h.2.2]) (by repeat (with_reducible first | exact fA _ _ | apply below_alloc | apply iA))
 all_goals
  go_enter Tryz.func25,Tryz.ntmps25
  go_wp2
  all_goals
   go_ret
   exact RV.of (by simp[Ent.legal, *] <;> omega) (by repeat (with_reducible first | exact fA _ _ | apply below_alloc | apply iA))
theorem reply_any (po c:Int) (o h:Bool) (d:Int) (wr:Bool) (x y z:Int) (w:cA):bB dA 121 #[V I po,.agg #[V I c,aA o,aA h,V I d],aA wr,drwV ⟨x,y,z⟩] w (RV (repV (reply po ⟨c,o,h,d⟩ wr ⟨x,y,z⟩)) w):=by
 simp only[drwV]
 have hp:po=2∨(po≠2/\po≠1)∨po=1:=vB
 rcases hp with rfl | ⟨p2,p1⟩ | rfl
 ·rw[show reply 2 ⟨c,o,h,d⟩ wr ⟨x,y,z⟩=(x,bitOf y 0,bitOf y 1) from rfl]
  go_enter Tryz.func121,Tryz.ntmps121
  go_wp2_with fail
  go_region_with (go_at_call 144;refine(bit_any _ _ _).mono ?_;rintro e w1 ⟨rfl,rfl⟩)
  all_goals
   go_wp2
   exact yA (v:=repV (x,bitOf y 0,bitOf y 1)) (by simp[results,Tryz.results121,go_sem,repV]) rfl ⟨rfl,by repeat (with_reducible first | exact fA _ _ | apply below_alloc | apply iA)⟩
 ·rw[show reply po ⟨c,o,h,d⟩ wr ⟨x,y,z⟩=(0,false,false) by simp[reply,p1,p2]]
  have j1:(po == 2)=false:=by simpa using p2
  have j2:(po != 1)=true:=by simpa using p1
  clear p1 p2
  go_enter Tryz.func121,Tryz.ntmps121
  go_wp2
  exact yA (v:=repV (0,false,false)) (by simp[results,Tryz.results121,go_sem,repV]) rfl ⟨rfl,by repeat (with_reducible first | exact fA _ _ | apply below_alloc | apply iA)⟩
 ·cases wr
  ·cases o
   ·rw[show reply 1 ⟨c,false,h,d⟩ false ⟨x,y,z⟩=(0,false,false) from rfl]
    go_enter Tryz.func121,Tryz.ntmps121
    go_wp2
    exact yA (v:=repV (0,false,false)) (by simp[results,Tryz.results121,go_sem,repV]) rfl ⟨rfl,by repeat (with_reducible first | exact fA _ _ | apply below_alloc | apply iA)⟩
   ·rw[show reply 1 ⟨c,true,h,d⟩ false ⟨x,y,z⟩=(1,decide (c < 2),true) from rfl]
    go_enter Tryz.func121,Tryz.ntmps121
    go_wp2_with fail
    go_region
    all_goals
     (try go_wp2)
     exact yA (v:=repV (1,decide (c < 2),true)) (by simp[results,Tryz.results121,go_sem,repV]) rfl ⟨rfl,by repeat (with_reducible first | exact fA _ _ | apply below_alloc | apply iA)⟩
  ·rw[show reply 1 ⟨c,o,h,d⟩ true ⟨x,y,z⟩=(c,true,o) from rfl]
   go_enter Tryz.func121,Tryz.ntmps121
   go_wp2_with fail
   go_region
   all_goals
    (try go_wp2)
    exact yA (v:=repV (c,true,o)) (by simp[results,Tryz.results121,go_sem,repV]) rfl ⟨rfl,by repeat (with_reducible first | exact fA _ _ | apply below_alloc | apply iA)⟩
end Go.Proofs.YtiebppkhaiofeaaGreat.K
