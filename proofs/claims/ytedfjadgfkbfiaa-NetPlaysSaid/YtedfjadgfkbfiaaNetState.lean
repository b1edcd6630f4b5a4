/- A net in memory, and what a call may change of the rest. No walk in it. -/
import Derived.Test.YtedfjadgfkbfiaaNetRows
namespace Go.Proofs.Ytedfjadgfkbfiaa.NetW
open Go.RowKit Go.Proofs.YtedfjadgfkbfiaaW.PrintWords Go.Proofs.Ytedfjadgfkbfiaa.Opens
set_option linter.unusedVariables false
set_option linter.unusedSimpArgs false

/-- Of the blocks that were there only g and r may have turned. -/
def Chg (g : Nat) (r : Option Nat) (w w' : World) : Prop := w'.os = w.os ∧ w'.tape = w.tape ∧ w'.output = w.output ∧ w.heap.size ≤ w'.heap.size ∧ ∀ i, i < w.heap.size → i ≠ g → some i ≠ r → w'.heap[i]? = w.heap[i]?
theorem Chg.refl (g : Nat) (r : Option Nat) (w : World) : Chg g r w w := ⟨rfl, rfl, rfl, Nat.le_refl _, fun _ _ _ _ => rfl⟩
theorem Chg.trans {g : Nat} {r r' : Option Nat} {a b c : World} (h : Chg g r a b) (k : Chg g r' b c) (hr : r' = r ∨ ∃ n, r' = some n ∧ a.heap.size ≤ n) : Chg g r a c :=
  ⟨k.1.trans h.1, k.2.1.trans h.2.1, k.2.2.1.trans h.2.2.1, Nat.le_trans h.2.2.2.1 k.2.2.2.1, fun i hi hg hne => (k.2.2.2.2 i (Nat.lt_of_lt_of_le hi h.2.2.2.1) hg (by
    rcases hr with rfl | ⟨n, rfl, hn⟩
    · exact hne
    · intro e; injection e with e; omega)).trans (h.2.2.2.2 i hi hg hne)⟩
theorem Chg.of_below {w w' : World} (g : Nat) (r : Option Nat) (h : Below w.heap.size w w') : Chg g r w w' := ⟨h.os, h.tape, h.output, h.size, fun i hi _ _ => h.block i hi⟩
theorem Chg.of_grown {w w' : World} {r : Option Nat} (g : Nat) (h : w.grownBy w' r) : Chg g r w w' := ⟨h.os, h.tape, h.output, h.size, fun i hi _ hr => h.block i hi hr⟩
theorem Chg.set {g : Nat} {r : Option Nat} {w W : World} (h : Chg g r w W) (i : Nat) (u : Value) : Chg g r w (W.setCell ⟨g, i, none⟩ u) :=
  ⟨h.1, h.2.1, h.2.2.1, by simpa using h.2.2.2.1, fun j hj hne hr => (Below.heap_setCell W ⟨g, i, none⟩ u j hne).trans (h.2.2.2.2 j hj hne hr)⟩
theorem Chg.setNew {g b : Nat} {r : Option Nat} {w W : World} (h : Chg g r w W) (hb : w.heap.size ≤ b) (i : Nat) (u : Value) : Chg g r w (W.setCell ⟨b, i, none⟩ u) :=
  ⟨h.1, h.2.1, h.2.2.1, by simpa using h.2.2.2.1, fun j hj hne hr => (Below.heap_setCell W ⟨b, i, none⟩ u j (show j ≠ b by omega)).trans (h.2.2.2.2 j hj hne hr)⟩
theorem Chg.below {g B : Nat} {r : Option Nat} {w w' : World} (h : Chg g r w w') (hB : B ≤ g) (hr : ∀ k, r = some k → B ≤ k) (hs : B ≤ w.heap.size) : Below B w w' :=
  ⟨h.1, h.2.1, h.2.2.1, h.2.2.2.1, fun i hi => h.2.2.2.2 i (by omega) (by omega) (fun e => by have := hr i e.symm; omega)⟩
theorem Chg.size {g : Nat} {r : Option Nat} {w w' : World} (h : Chg g r w w') : w.heap.size ≤ w'.heap.size := h.2.2.2.1
theorem Chg.blk {g g' : Nat} {r : Option Nat} {w w' : World} {o : Obj} (h : Chg g r w w') (hb : w.heap[g']? = some o) (hg : g' ≠ g) (hr : some g' ≠ r) : w'.heap[g']? = some o := (h.2.2.2.2 g' (blk_lt hb) hg hr).trans hb
/-- v is a value of the call's own made since then, or in v0's place. -/
def Since (n : Nat) (v0 v : Value) : Prop := v.ownBlock = v0.ownBlock ∨ ∃ b, v.ownBlock = some b ∧ n ≤ b
def Fresh (n : Nat) (v : Value) : Prop := ∀ b, v.ownBlock = some b → n ≤ b
theorem OwnL.fresh {B : Nat} {v : Value} {xs : List LetR} {W : World} (h : OwnL B v xs W) : Fresh B v := fun b hb => (OwnL.lt h b hb).1
/-- A row u and a net (g, v) have no block in common. -/
def Off (u : Value) (g : Nat) (v : Value) : Prop := u.ownBlock ≠ some g ∧ (u.ownBlock = none ∨ u.ownBlock ≠ v.ownBlock)
theorem OwnL.frame {B g : Nat} {v u : Value} {xs : List LetR} {w w' : World} (h : OwnL B u xs w) (hc : Chg g v.ownBlock w w') (ho : Off u g v) : OwnL B u xs w' := by
  refine ⟨h.1, ?_⟩
  rcases h.2 with ⟨a, b⟩ | ⟨g', cap, cur, rfl, hB, hg, r⟩
  · exact .inl ⟨a, b⟩
  · refine .inr ⟨g', cap, cur, rfl, hB, hc.blk hg ?_ ?_, r⟩
    · intro e; exact ho.1 (by simp [Value.ownBlock, e])
    · intro e
      rcases ho.2 with h | h
      · simp [Value.ownBlock] at h
      · exact h (by simpa [Value.ownBlock] using e)

/-- A net: in block g, of type T, with so much room, its letters in the row v. -/
def NetAt (T : TypeId) (rm : Int) (xs : List LetR) (v : Value) (g : Nat) (w0 w : World) : Prop :=
  w.heap[g]? = some (.cells #[.int .i64 rm, v] T (0, 0)) ∧ OwnL w0.heap.size v xs w ∧ w0.heap.size ≤ g ∧ (0 ≤ rm ∧ rm ≤ 65536 ∧ (xs.length : Int) ≤ rm) ∧ Below w0.heap.size w0 w ∧ T ≠ 36
section
variable {T T2 : TypeId} {rm rm2 : Int} {xs xs2 : List LetR} {v v2 v' : Value} {g g2 : Nat} {w0 w w' : World}
theorem NetAt.blk (h : NetAt T rm xs v g w0 w) : w.heap[g]? = some (.cells #[.int .i64 rm, v] T (0, 0)) := h.1
theorem NetAt.own (h : NetAt T rm xs v g w0 w) : OwnL w0.heap.size v xs w := h.2.1
theorem NetAt.base (h : NetAt T rm xs v g w0 w) : w0.heap.size ≤ g := h.2.2.1
theorem NetAt.room (h : NetAt T rm xs v g w0 w) : 0 ≤ rm ∧ rm ≤ 65536 ∧ (xs.length : Int) ≤ rm := h.2.2.2.1
theorem NetAt.bel (h : NetAt T rm xs v g w0 w) : Below w0.heap.size w0 w := h.2.2.2.2.1
theorem NetAt.lt (h : NetAt T rm xs v g w0 w) : g < w.heap.size := blk_lt h.1
theorem own_ne {B : Nat} {u : Value} (ho : OwnL B u xs w) {cs : Array Value} (hb : w.heap[g]? = some (.cells cs T (0, 0))) (hT : T ≠ 36) : u.ownBlock ≠ some g := by
  rcases ho.2 with ⟨rfl, _⟩ | ⟨g', cap, cur, rfl, _, hg, _⟩
  · simp [Value.ownBlock]
  · intro e
    simp [Value.ownBlock] at e
    subst e
    rw [hg] at hb
    simp at hb
    exact hT hb.2.symm
theorem NetAt.ne (h : NetAt T rm xs v g w0 w) : v.ownBlock ≠ some g := own_ne h.own h.blk h.2.2.2.2.2
theorem NetAt.below (h : NetAt T rm xs v g w0 w) (hb : Below w.heap.size w w') : NetAt T rm xs v g w0 w' :=
  ⟨blk_below h.1 hb, OwnL.below h.own hb, h.base, h.room, h.bel.trans (hb.mono h.bel.size), h.2.2.2.2.2⟩
/-- Two nets have no block in common. -/
def Apt (g : Nat) (v : Value) (g2 : Nat) (v2 : Value) : Prop := g ≠ g2 ∧ v2.ownBlock ≠ some g ∧ Off v g2 v2
theorem NetAt.frame (h : NetAt T rm xs v g w0 w) (hc : Chg g2 v2.ownBlock w w') (ha : Apt g v g2 v2) (hb : Below w0.heap.size w0 w') : NetAt T rm xs v g w0 w' :=
  ⟨hc.blk h.1 ha.1 (fun e => ha.2.1 e.symm), OwnL.frame h.own hc ha.2.2, h.base, h.room, hb, h.2.2.2.2.2⟩
theorem Off.since {u : Value} {B : Nat} (h : Off u g v) (ho : OwnL B u xs w) (hs : Since w.heap.size v v') : Off u g v' := by
  refine ⟨h.1, ?_⟩
  rcases hs with e | ⟨b, e, hb⟩
  · rw [e]; exact h.2
  · cases hu : u.ownBlock with
    | none => exact .inl rfl
    | some k => exact .inr (by rw [e]; intro e2; injection e2 with e2; have := (OwnL.lt ho k hu).2; omega)
theorem Apt.since (h : Apt g v g2 v2) (hn : NetAt T rm xs v g w0 w) (hs : Since w.heap.size v2 v') : Apt g v g2 v' := by
  refine ⟨h.1, ?_, h.2.2.since hn.own hs⟩
  rcases hs with e | ⟨b, e, hb⟩
  · rw [e]; exact h.2.1
  · rw [e]; intro e2; injection e2 with e2; have := hn.lt; omega
theorem Apt.symm (h : Apt g v g2 v2) : Apt g2 v2 g v := by
  refine ⟨Ne.symm h.1, h.2.2.1, h.2.1, ?_⟩
  rcases h.2.2.2 with e | e
  · rw [e]; cases v2.ownBlock with | none => exact .inl rfl | some k => exact .inr (by simp)
  · exact .inr (Ne.symm e)
/-- A row made later than a net is off it. -/
theorem Off.fresh {u : Value} {n : Nat} (hu : Fresh n u) (hn : NetAt T rm xs v g w0 w) (hs : w.heap.size ≤ n) : Off u g v := by
  refine ⟨fun e => by have := hu g e; have := hn.lt; omega, ?_⟩
  cases h : u.ownBlock with
  | none => exact .inl rfl
  | some k => exact .inr (fun e => by have h1 := hu k h; have h2 := (OwnL.lt hn.own k e.symm).2; omega)
theorem Apt.fresh {g3 : Nat} {v3 : Value} (hn : NetAt T rm xs v g w0 w) (hg : w.heap.size ≤ g3) (hv : Fresh w.heap.size v3) : Apt g v g3 v3 := by
  refine Apt.symm ⟨by have := hn.lt; omega, ?_, Off.fresh hv hn (Nat.le_refl _)⟩
  intro e; have := (OwnL.lt hn.own g3 e).2; omega
end

theorem NetAt.other {T : TypeId} {rm : Int} {xs : List LetR} {v : Value} {g b : Nat} {w0 w w' : World} (h : NetAt T rm xs v g w0 w) (hc : Chg b none w w') (hb : g ≠ b) (hv : v.ownBlock ≠ some b) (hB : w0.heap.size ≤ b) : NetAt T rm xs v g w0 w' :=
  h.frame (v2 := .slice none 0 0) hc ⟨hb, by simp [Value.ownBlock], ⟨hv, by cases hx : v.ownBlock with | none => exact .inl rfl | some k => exact .inr (by simp [Value.ownBlock])⟩⟩ (h.bel.trans (hc.below hB (fun k hk => by simp at hk) h.bel.size))
/-- What a call that may turn a net leaves. -/
def NPost (T : TypeId) (res : Value) (rm : Int) (xs' : List LetR) (v : Value) (g : Nat) (w0 w : World) (e : Ending) (w' : World) : Prop :=
  ∃ v', e = .returned res ∧ NetAt T rm xs' v' g w0 w' ∧ Chg g v.ownBlock w w' ∧ Since w.heap.size v v'

/-- The document's net. -/
def roomOf (r : Int) : Int := min (max r 0) 65536
theorem roomOf_ok (r : Int) : 0 ≤ roomOf r ∧ roomOf r ≤ 65536 := by unfold roomOf; omega
def goes (rm : Int) (xs ys : List LetR) : Bool := decide ((ys.length : Int) ≤ rm - xs.length)
def sent (rm : Int) (xs ys : List LetR) : List LetR := if goes rm xs ys then xs ++ ys else xs
def inside (xs : List LetR) (i : Int) : Bool := decide (0 ≤ i ∧ i < xs.length)
def taken (xs : List LetR) (i : Int) : List LetR := if inside xs i then xs.eraseIdx i.toNat else xs
def got (xs : List LetR) (i : Int) : LetR := if inside xs i then xs.getD i.toNat l0 else l0
def ask (l : LetR) : Bool := l.1 == 2
def loses (xs : List LetR) (i : Int) : Bool := inside xs i && ask (xs.getD i.toNat l0)
def dropped (xs : List LetR) (i : Int) : List LetR := if loses xs i then xs.eraseIdx i.toNat else xs
def letV (l : LetR) : Value := .agg (letCells l).toArray
end Go.Proofs.Ytedfjadgfkbfiaa.NetW
