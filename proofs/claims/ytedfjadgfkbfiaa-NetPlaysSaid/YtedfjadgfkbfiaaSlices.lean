/- Arguments that are slices of structs, opened to lists of plain records. -/
import Derived.Test.YtedfjadgfkbfiaaProg
import Derived.Lib.SmallJoins
import Derived.OpenShut
import Derived.Carry
namespace Go.Proofs.Ytedfjadgfkbfiaa.Opens
open Go.Joins Go.ChangeShapes Go.WideShapes Go.RowKit Go.Deep

/-- A slice reads as a list, each element as its cells. -/
def Row {α : Type} (f : α → List Value) (d : α) (sz : Nat) (W : World) (A : Option Addr) (xs : List α) : Prop :=
  ∀ i, i < xs.length → ∃ ad, A = some ad ∧ ∀ j, j < sz → W.cell? (ad.add (i * sz + j)) = (f (xs.getD i d))[j]?
theorem Row.below {α : Type} {f : α → List Value} {d : α} {sz : Nat} {W W' : World} {A : Option Addr} {xs : List α} (h : Row f d sz W A xs) (hf : ∀ x, (f x).length = sz) (hb : Below W.heap.size W W') : Row f d sz W' A xs := by
  intro i hi
  obtain ⟨ad, e, hc⟩ := h i hi
  refine ⟨ad, e, fun j hj => ?_⟩
  have h1 := hc j hj
  have h2 : (f (xs.getD i d))[j]? = some ((f (xs.getD i d))[j]'(by rw [hf]; exact hj)) := List.getElem?_eq_getElem _
  rw [h2] at h1 ⊢
  exact (hb.cell (World.block_lt_of_cell? W _ h1)).trans h1

section
variable {H : Type} {enc : TypeId × Value → H} {P : Program} {w : World} {base : Nat} {spare : Nat → Bool} {held : Bool}
theorem open_row {α : Type} (f : α → List Value) (d : α) {t e : TypeId} {sz : Nat} {a : Option Addr} {len cap fuel : Nat} {x : DataW H × List MemPlace} (ht : P.underlying t = some (.slice e)) (hsz : P.cellsOf e = sz)
    (leaf : ∀ n cs y, DataW.trod enc P w base spare held n e cs = some y → ∃ p : α, cs = f p) (h : DataW.trod enc P w base spare held fuel t [.slice a len cap] = some x) :
    ∃ xs : List α, xs.length = len ∧ len ≤ maxLen ∧ Row f d sz w a xs := by
  rcases open_slice ht h with ⟨hcs, _⟩ | ⟨ad, len', cap', m, n, D, Pl, hcs, _, hl, hm, hmm, _, hx⟩
  · simp at hcs
    obtain ⟨rfl, rfl, rfl⟩ := hcs
    exact ⟨[], rfl, Nat.zero_le _, fun i hi => by simp at hi⟩
  · simp at hcs
    obtain ⟨rfl, rfl, rfl⟩ := hcs
    have hlm : len ≤ m := by rw [hmm]; split <;> omega
    have key : ∀ i, i < len → ∃ p : α, ∀ j, j < sz → w.cell? (ad.add (i * sz + j)) = (f p)[j]? := by
      intro i hi
      obtain ⟨cs', hc, htr⟩ := hx i (by omega)
      obtain ⟨p, rfl⟩ := leaf _ _ _ htr
      rw [hsz] at hc
      obtain ⟨_, _, hat⟩ := World.cells?_some hc
      exact ⟨p, fun j hj => by rw [← Go.Deep.add_add]; exact hat j hj⟩
    refine ⟨(List.range len).map fun i => if h : i < len then Classical.choose (key i h) else d, by simp, by omega, fun i hi => ?_⟩
    simp at hi
    refine ⟨ad, rfl, fun j hj => ?_⟩
    have e1 : ((List.range len).map fun i => if h : i < len then Classical.choose (key i h) else d).getD i d = Classical.choose (key i hi) := by
      simp [List.getD_eq_getElem?_getD, hi]
    rw [e1]
    exact Classical.choose_spec (key i hi) j hj
end

section
variable {H : Type} {enc : TypeId × Value → H} {w : World} {base : Nat} {spare : Nat → Bool} {held : Bool}
/-- An operation: its block, is it a store, its value. -/
abbrev OpR := Int × Bool × Int
def opCells (o : OpR) : List Value := [.int .i64 o.1, .bool o.2.1, .int .i64 o.2.2]
theorem leaf54 (n : Nat) (cs : List Value) (y : DataW H × List MemPlace) (h : DataW.trod enc Try.prog w base spare held n 54 cs = some y) : ∃ p : OpR, cs = opCells p := by
  obtain ⟨xs, m, _, _, hl, hlen, hg⟩ := DataW.trod_struct Try.underlying54 h
  have hC : Try.prog.cellsOf 54 = 3 := by kernel_rfl
  have k3 : Try.prog.cellsOf 3 = 1 := by kernel_rfl
  have k4 : Try.prog.cellsOf 4 = 1 := by kernel_rfl
  have k2 : Try.prog.cellsOf 2 = 1 := by kernel_rfl
  rw [hC] at hl
  match cs, hl with
  | [a, b, c], _ =>
    match xs, hlen with
    | [y0, y1, y2], _ =>
      have h0 : DataW.trod enc Try.prog w base spare held m 3 [a] = some y0 := by have := hg 0 _ rfl; simpa [k3] using this
      have h1 : DataW.trod enc Try.prog w base spare held m 4 [b] = some y1 := by have := hg 1 _ rfl; simpa [k4] using this
      have h2 : DataW.trod enc Try.prog w base spare held m 2 [c] = some y2 := by have := hg 2 _ rfl; simpa [k2] using this
      obtain ⟨x0, e0, _, _⟩ := DataW.trod_int (k := .i64) (by kernel_rfl) h0
      obtain ⟨x1, e1, _⟩ := DataW.trod_bool (by kernel_rfl) h1
      obtain ⟨x2, e2, _, _⟩ := DataW.trod_int (k := .i64) (by kernel_rfl) h2
      simp at e0 e1 e2
      subst e0 e1 e2
      exact ⟨(x0, x1, x2), rfl⟩
/-- A call: its kind, and an operation. -/
abbrev ActR := Int × OpR
def actCells (a : ActR) : List Value := .int .i64 a.1 :: opCells a.2
theorem leaf69 (n : Nat) (cs : List Value) (y : DataW H × List MemPlace) (h : DataW.trod enc Try.prog w base spare held n 69 cs = some y) : ∃ p : ActR, cs = actCells p := by
  obtain ⟨xs, m, _, _, hl, hlen, hg⟩ := DataW.trod_struct Try.underlying69 h
  have hC : Try.prog.cellsOf 69 = 4 := by kernel_rfl
  have k3 : Try.prog.cellsOf 3 = 1 := by kernel_rfl
  have k54 : Try.prog.cellsOf 54 = 3 := by kernel_rfl
  rw [hC] at hl
  match cs, hl with
  | [a, b, c, d], _ =>
    match xs, hlen with
    | [y0, y1], _ =>
      have h0 : DataW.trod enc Try.prog w base spare held m 3 [a] = some y0 := by have := hg 0 _ rfl; simpa [k3] using this
      have h1 : DataW.trod enc Try.prog w base spare held m 54 [b, c, d] = some y1 := by have := hg 1 _ rfl; simpa [k54] using this
      obtain ⟨x0, e0, _, _⟩ := DataW.trod_int (k := .i64) (by kernel_rfl) h0
      obtain ⟨p, e1⟩ := leaf54 _ _ _ h1
      simp at e0 e1
      subst e0
      exact ⟨(x0, p), by simp [actCells, ← e1]⟩
end
end Go.Proofs.Ytedfjadgfkbfiaa.Opens
