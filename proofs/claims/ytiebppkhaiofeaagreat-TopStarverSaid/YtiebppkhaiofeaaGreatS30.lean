/- Part of the proof of TopStarver: what functions of the program do. -/
import Derived.Test.YtiebppkhaiofeaaGreatS17
set_option maxHeartbeats 4000000
set_option maxRecDepth 100000
set_option linter.unusedVariables false
set_option linter.unusedSimpArgs false
namespace Go.Proofs.YtiebppkhaiofeaaGreat.S
open Go.RowKit
def Node.starves (n:Node):Bool:=n.cpu.busy && (n.own n.cpu.op.block).isSome
def Node.cnt (n:Node):Int:=(n.lines.tok n.cpu.op.block).count
def Kept (n n':Node) (ds:List Done):Prop:=(∀ d∈ds,d.node≠n.id)->n.starves=true->n'.starves=true->n.cnt≤n'.cnt
theorem Kept.same {n n':Node} {ds:List Done} (h1:n'.cpu.op=n.cpu.op) (h2:n'.lines.tok n.cpu.op.block=n.lines.tok n.cpu.op.block):Kept n n' ds:=fun _ _ _=>by
 unfold Node.cnt
 rw[h1,h2]
 exact Int.le_refl _
section
variable {c:Cfg} {n:Node} {m:Int}
theorem end_keeps (b:Int) (o:Out):(n.end_ c b o).1.cpu=n.cpu/\(n.end_ c b o).1.lines=n.lines/\(n.end_ c b o).2.done=o.done:=by
 unfold Node.end_
 split
 ·exact⟨rfl,rfl,rfl⟩
 ·split <;> exact⟨rfl,rfl,rfl⟩
theorem settle_keeps (o:Out) (h:∀ d∈(n.settle c o).2.done,d.node≠n.id):(n.settle c o).1=n:=by
 unfold Node.settle at h ⊢
 split
 ·rfl
 ·rename_i hb
  rw[if_neg hb] at h
  simp only at h ⊢
  split
  ·rfl
  ·rename_i hr
   rw[if_neg hr] at h
   rw[(end_keeps _ _).2.2] at h
   exact absurd rfl (h _ (List.mem_append.2 (.inr (List.mem_singleton.2 rfl))))
theorem issue_kept (op:Op) (d:Drw):Kept n (n.issue c op d).1 (n.issue c op d).2.1.done:=by
 unfold Node.issue
 split
 ·exact Kept.same rfl rfl
 ·simp only
  unfold Proc.issue
  cases hb:n.cpu.busy
  ·intro _ hs
   unfold Node.starves at hs
   rw[hb] at hs
   cases hs
  ·simp only[if_true,Bool.not_false]
   exact Kept.same rfl rfl
theorem tick_kept (d:Drw):Kept n (n.tick c d).1 (n.tick c d).2.done:=by
 have hop:(n.cpu.tick c).1.op=n.cpu.op:=by
  unfold Proc.tick
  repeat' split
  all_goals rfl
 unfold Node.tick
 simp only
 split
 ·exact Kept.same hop rfl
 ·split
  ·split <;> exact Kept.same hop rfl
  ·exact Kept.same hop rfl
theorem pinned_eq (h:n.cpu.busy=true):n.cpu.pinned=n.cpu.op.block:=by unfold Proc.pinned;rw[if_pos h]
theorem tokens_kept (hn:NOk c n m) (hm:m < 4611686018427387904) {l:Let} (h0:0≤l.block) (h1:1≤l.bun.count) (h2:l.bun.count≤65536) (o:Out):Kept n (n.tokens c l o).1 (n.tokens c l o).2.done:=by
 unfold Node.tokens
 split
 ·exact Kept.same rfl rfl
 ·simp only
  intro hd hs hs'
  rw[settle_keeps _ hd] at hs' ⊢
  unfold Node.starves at hs
  simp only[Bool.and_eq_true] at hs
  have hp:=pinned_eq hs.1
  obtain⟨-,hcase⟩:=absorb_eq hn.cac h0 h1 n.cpu.pinned
  show(n.lines.tok n.cpu.op.block).count≤((n.lines.absorb c l.block l.bun n.cpu.pinned).1.tok n.cpu.op.block).count
  have hz:∀ b,b∉n.lines.row c b->(n.lines.tok b).count=0:=fun b hb=>by rw[hn.cac.none hb];rfl
  have hc:=hn.cnt n.cpu.op.block
  rcases hcase with ⟨ht,-,-⟩ | ⟨ht,-,hb⟩ | ⟨x,hx1,hx2,-,-,hb,ht,-⟩ | ⟨ht,-,-,-⟩
  ·rw[ht]
   by_cases q:n.cpu.op.block=l.block
   ·rw[q] at hc ⊢
    unfold upd
    rw[if_pos rfl]
    show _≤wrap64 ((n.lines.tok l.block).count+l.bun.count)
    rw[wrap_id (by omega) (by omega)]
    omega
   ·unfold upd;rw[if_neg q];exact Int.le_refl _
  ·rw[ht]
   by_cases q:n.cpu.op.block=l.block
   ·rw[q]
    unfold upd
    rw[if_pos rfl,hz _ hb]
    omega
   ·unfold upd;rw[if_neg q];exact Int.le_refl _
  ·rw[ht]
   by_cases q:n.cpu.op.block=l.block
   ·rw[q]
    unfold upd
    rw[if_pos rfl,hz _ hb]
    omega
   ·unfold upd
    rw[if_neg q,if_neg (fun e=>hx1 (by rw[hp];exact e.symm))]
    exact Int.le_refl _
  ·rw[ht];exact Int.le_refl _
theorem asks_kept (hn:NOk c n m) (l:Let) (d:Drw) (o:Out):Kept n (n.asks c l d o).1 (n.asks c l d o).2.done:=by
 unfold Node.asks
 split
 ·exact Kept.same rfl rfl
 ·rename_i hne
  intro hd hs hs'
  unfold Node.starves at hs
  simp only[Bool.and_eq_true] at hs
  have hp:=pinned_eq hs.1
  have q:n.cpu.op.block≠l.block:=fun e=>hne ⟨by rw[<- e];exact hs.2,by rw[hp];exact e⟩
  show(n.lines.tok n.cpu.op.block).count≤((n.lines.take c l.block _ _ _).1.tok n.cpu.op.block).count
  rw[(take_eq hn.cac _ _ _ _).2.2]
  unfold upd
  rw[if_neg q]
  exact Int.le_refl _
theorem activate_kept (hn:NOk c n m) (l:Let) (o:Out):Kept n (n.activate c l o).1 (n.activate c l o).2.done:=by
 unfold Node.activate
 simp only
 split
 ·exact Kept.same rfl rfl
 ·rename_i hact
  split
  ·split
   ·obtain⟨h1,h2,-⟩:=end_keeps (c:=c) (n:={ n with know:=(n.know.activate ⟨l.block,l.who,l.seq⟩).1 }) l.block o
    exact Kept.same (by rw[h1]) (by rw[h2])
   ·exact Kept.same rfl rfl
  ·rename_i hwho
   intro hd hs hs'
   by_cases q:n.cpu.op.block=l.block
   ·exfalso
    unfold Node.starves at hs'
    simp only[Bool.and_eq_true] at hs'
    obtain⟨-,h2⟩:=hs'
    unfold Node.own at h2
    simp only at h2
    have hk:(n.know.activate ⟨l.block,l.who,l.seq⟩).1.act n.cpu.op.block=some ⟨l.block,l.who,l.seq⟩:=by
     unfold Table.activate at hact ⊢
     split
     ·rename_i h3
      rw[if_pos h3] at hact
      simp at hact
     ·show upd n.know.act l.block _ n.cpu.op.block=_
      unfold upd
      rw[if_pos q]
    rw[hk] at h2
    simp only at h2
    rw[if_neg hwho] at h2
    cases h2
   ·show(n.lines.tok n.cpu.op.block).count≤((n.lines.take c l.block _ _ _).1.tok n.cpu.op.block).count
    rw[(take_eq hn.cac _ _ _ _).2.2]
    unfold upd
    rw[if_neg q]
    exact Int.le_refl _
theorem take_kept (hc:c.check=0) (hn:NOk c n m) (hm:m < 4611686018427387904) (l:Let) (d:Drw):Kept n (n.take c l d).1 (n.take c l d).2.done:=by
 unfold Node.take
 split
 ·exact Kept.same rfl rfl
 ·rename_i hl
  split
  ·rename_i hk
   obtain⟨hb0,-,-,-,-,ht⟩:=check_row (c:=c) (l:=l) (Classical.not_not.1 fun q=>hl (.inl q))
   have h3:=ht (by rw[hk];rfl)
   have h4:=bun_check h3.1
   obtain⟨-,-,-,-,-,-,-,-,-,-,-,-,-,-,-,-,-,ht2⟩:=check_ok hc
   exact tokens_kept hn hm hb0 (by omega) (by omega) _
  ·split
   ·exact asks_kept hn l d _
   ·split
    ·exact activate_kept hn l _
    ·split
     ·exact Kept.same rfl rfl
     ·exact Kept.same rfl rfl
end
theorem getD_any {α:Type} (l:List α) {i:Nat} (d d':α) (h:i < l.length):l.getD i d=l.getD i d':=by simp[List.getD,h]
theorem getD_in {α:Type} (l:List α) {i:Nat} (d:α) (h:i < l.length):l.getD i d∈l:=by simp[List.getD,h]
theorem set_same {α:Type} (l:List α) (i:Nat) (d:α):l.set i (l.getD i d)=l:=by
 by_cases h:i < l.length
 ·rw[List.getD_eq_getElem?_getD,List.getElem?_eq_getElem h,Option.getD_some,List.set_getElem_self]
 ·exact List.set_eq_of_length_le (by omega)
theorem issue_no {c:Cfg} {n:Node} (op:Op) (d:Drw) (h:(n.issue c op d).2.2=false):(n.issue c op d).1=n:=by
 unfold Node.issue at h ⊢
 split
 ·rfl
 ·rename_i hb
  rw[if_neg hb] at h
  simp only at h ⊢
  split
  ·rfl
  ·rename_i hp
   rw[if_neg hp] at h
   cases h
theorem Kept.sub {n n':Node} {ds ds':List Done} (h:Kept n n' ds) (hs:∀ d∈ds,d∈ds'):Kept n n' ds':=fun hd=>h (fun d hm=>hd d (hs d hm))
theorem acts_kept {c:Cfg} {w:World} {m:Int} (hc:c.check=0) (hN:∀ n∈w.nodes,NOk c n m) (hm:m < 4611686018427387904) (e:Ent) (j:Nat) (hj:j < w.nodes.length) :
  Kept (w.nodes.getD j (Node.new j)) ((w.acts c e).2.1.nodes.getD j (Node.new j)) (w.acts c e).2.2.2/\((w.acts c e).1=false->(w.acts c e).2.1.nodes=w.nodes):=by
 unfold World.acts
 split
 ·simp only
  refine⟨?_,fun h=>?_⟩
  ·rw[getD_set]
   by_cases q:e.a.toNat=j/\e.a.toNat < w.nodes.length
   ·rw[if_pos q]
    have hn:w.node e.a=w.nodes.getD j (Node.new j):=by unfold World.node;rw[q.1];exact getD_any _ _ _ hj
    rw[hn]
    exact issue_kept _ _
   ·rw[if_neg q];exact Kept.same rfl rfl
  ·rw[issue_no _ _ h]
   exact set_same _ _ _
 ·split
  ·split
   ·rename_i hat
    simp only
    split
    ·exact⟨Kept.same rfl rfl,fun h=>by cases h⟩
    ·refine⟨?_,fun h=>by cases h⟩
     simp only
     rw[getD_set]
     by_cases q:(w.way.getD e.a.toNat let0).dst.toNat=j/\(w.way.getD e.a.toNat let0).dst.toNat < w.nodes.length
     ·rw[if_pos q]
      have hn:w.node (w.way.getD e.a.toNat let0).dst=w.nodes.getD j (Node.new j):=by unfold World.node;rw[q.1];exact getD_any _ _ _ hj
      rw[hn]
      exact take_kept hc (hN _ (getD_in _ _ hj)) hm _ _
     ·rw[if_neg q];exact Kept.same rfl rfl
   ·exact⟨Kept.same rfl rfl,fun _=>rfl⟩
  ·split
   ·split
    ·exact⟨Kept.same rfl rfl,fun h=>by cases h⟩
    ·exact⟨Kept.same rfl rfl,fun _=>rfl⟩
   ·refine⟨?_,fun h=>by cases h⟩
    simp only
    have hg:((w.nodes.map fun(n:Node)=>n.tick c ⟨e.b,e.c,e.d⟩).map (·.1)).getD j (Node.new j)=((w.nodes.getD j (Node.new j)).tick c ⟨e.b,e.c,e.d⟩).1:=by
     rw[List.getD_eq_getElem?_getD,List.map_map,List.getElem?_map,List.getD_eq_getElem?_getD,List.getElem?_eq_getElem hj]
     rfl
    rw[hg]
    refine(tick_kept (c:=c) ⟨e.b,e.c,e.d⟩).sub fun d hd=>?_
    exact List.mem_flatMap.2 ⟨_,List.mem_map.2 ⟨_,getD_in _ _ hj,rfl⟩,hd⟩
theorem step_kept {c:Cfg} {w:World} (hc:c.check=0) (h:WOk c w) (hst:w.steps < 35184372088832) (e:Ent) (j:Nat) (hj:j < w.nodes.length) :
  (∀ d∈(w.step c e).2.2,d.node≠j)->(w.nodes.getD j (Node.new j)).starves=true->((w.step c e).1.nodes.getD j (Node.new j)).starves=true->(w.nodes.getD j (Node.new j)).cnt≤((w.step c e).1.nodes.getD j (Node.new j)).cnt:=by
 have h0:=h.t.st
 have hid:=h.t.ids j (by rw[<- h.t.len];exact hj)
 obtain⟨hk,hno⟩:=acts_kept (w:={ w with steps:=wrap64 (w.steps+1)}) hc h.node (by omega) e j hj
 unfold Kept at hk
 rw[hid] at hk
 unfold World.step
 simp only
 split
 ·intro _ _ _;exact Int.le_refl _
 ·split
  ·rename_i hb
   have hb':(World.acts c { w with steps:=wrap64 (w.steps+1)} e).1=false:=by simpa using hb
   intro _ _ _
   simp only
   rw[hno hb']
   exact Int.le_refl _
  ·split
   ·intro _ _ _;exact Int.le_refl _
   ·intro hd
    refine hk fun d hm=>?_
    exact hd { d with step:=wrap64 (w.steps+1)} (List.mem_map.2 ⟨d,hm,rfl⟩)
def hadF (n:Node):Int:=if n.starves then n.cnt else 0
def hadL (w:World):List Int:=w.nodes.map hadF
theorem hadL_new (c:Cfg):hadL (World.new c)=List.replicate c.nodes.toNat 0:=by
 unfold hadL World.new
 rw[List.map_map]
 rw[List.eq_replicate_iff]
 refine⟨by simp,fun x hx=>?_⟩
 obtain⟨i,-,rfl⟩:=List.mem_map.1 hx
 rfl
theorem had_step {c:Cfg} {w:World} (hc:c.check=0) (h:WOk c w) (hst:w.steps < 35184372088832) (e:Ent) (j:Nat) (hj:j < w.nodes.length) (x:Int) (hx:x=0∨((∀ d∈(w.step c e).2.2,d.node≠j)/\x=(hadL w).getD j 0)) (hs:((w.step c e).1.nodes.getD j (Node.new j)).starves=true):x≤((w.step c e).1.nodes.getD j (Node.new j)).cnt:=by
 have h1:=wok_step hc h hst e
 have hl:(w.step c e).1.nodes.length=w.nodes.length:=h1.t.len.trans h.t.len.symm
 have hp:=(h1.node _ (getD_in _ (Node.new j) (by rw[hl];exact hj))).cnt ((w.step c e).1.nodes.getD j (Node.new j)).cpu.op.block
 have hp':0≤((w.step c e).1.nodes.getD j (Node.new j)).cnt:=hp.1
 rcases hx with hx | ⟨hd,hx⟩
 ·rw[hx];exact hp'
 ·have hg:(hadL w).getD j 0=hadF (w.nodes.getD j (Node.new j)):=by
   unfold hadL
   rw[List.getD_eq_getElem?_getD,List.getElem?_map,List.getD_eq_getElem?_getD,List.getElem?_eq_getElem hj]
   rfl
  rw[hx,hg]
  unfold hadF
  split
  ·rename_i hs0
   exact step_kept hc h hst e j hj hd hs0 hs
  ·exact hp'
end Go.Proofs.YtiebppkhaiofeaaGreat.S
