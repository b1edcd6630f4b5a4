/- Arguments that are rows of letters, and rows of calls that hold rows of letters, opened to plain lists. -/
import Derived.Test.YtedfjadgfkbfiaaNetRows
import Derived.Lib.SmallJoins
import Derived.OpenShut
import Derived.Carry
namespace Go.Proofs.Ytedfjadgfkbfiaa.NetW
open Go.Joins Go.ChangeShapes Go.WideShapes Go.RowKit Go.Deep Go.Proofs.Ytedfjadgfkbfiaa.Opens
set_option linter.unusedVariables false

section
variable {H : Type} {enc : TypeId × Value → H} {P : Program} {w : World} {base : Nat} {spare : Nat → Bool} {held : Bool}
theorem open_row3 {α : Type} (f : α → List Value) (d : α) (Good : α → Prop) {t e : TypeId} {sz : Nat} {cs : List Value} {fuel : Nat} {x : DataW H × List MemPlace} (ht : P.underlying t = some (.slice e)) (hsz : P.cellsOf e = sz)
    (leaf : ∀ n cs y, DataW.trod enc P w base spare held n e cs = some y → ∃ p : α, cs = f p ∧ Good p) (h : DataW.trod enc P w base spare held fuel t cs = some x) :
    ∃ a cap, ∃ xs : List α, cs = [.slice a xs.length cap] ∧ xs.length ≤ cap ∧ cap ≤ maxLen ∧ (a = none → cap = 0) ∧ Row f d sz w a xs ∧ ∀ i, i < xs.length → Good (xs.getD i d) := by
  rcases open_slice ht h with ⟨hcs, _⟩ | ⟨ad, len', cap', m, n, D, Pl, hcs, _, hl, hm, hmm, _, hx⟩
  · exact ⟨none, 0, [], by simpa using hcs, Nat.le_refl _, Nat.zero_le _, fun _ => rfl, fun i hi => by simp at hi, fun i hi => by simp at hi⟩
  · have hlm : len' ≤ m := by rw [hmm]; split <;> omega
    have key : ∀ i, i < len' → ∃ p : α, (∀ j, j < sz → w.cell? (ad.add (i * sz + j)) = (f p)[j]?) ∧ Good p := by
      intro i hi
      obtain ⟨cs', hc, htr⟩ := hx i (by omega)
      obtain ⟨p, rfl, hg⟩ := leaf _ _ _ htr
      rw [hsz] at hc
      obtain ⟨_, _, hat⟩ := World.cells?_some hc
      exact ⟨p, fun j hj => by rw [← Go.Deep.add_add]; exact hat j hj, hg⟩
    have e0 : ∀ i (hi : i < len'), ((List.range len').map fun i => if h : i < len' then Classical.choose (key i h) else d).getD i d = Classical.choose (key i hi) := fun i hi => by
      simp [List.getD_eq_getElem?_getD, hi]
    refine ⟨some ad, cap', (List.range len').map fun i => if h : i < len' then Classical.choose (key i h) else d, by simpa using hcs, by simpa using hl, hm, fun e => by simp at e, fun i hi => ?_, fun i hi => ?_⟩
    · simp at hi
      exact ⟨ad, rfl, fun j hj => by rw [e0 i hi]; exact (Classical.choose_spec (key i hi)).1 j hj⟩
    · simp at hi
      rw [e0 i hi]
      exact (Classical.choose_spec (key i hi)).2
end

section
variable {H : Type} {enc : TypeId × Value → H} {w : World} {base : Nat} {spare : Nat → Bool} {held : Bool}
theorem leaf34 (n : Nat) (cs : List Value) (y : DataW H × List MemPlace) (h : DataW.trod enc Try.prog w base spare held n 34 cs = some y) : ∃ c o ha d, cs = [.int .i64 c, .bool o, .bool ha, .int .i64 d] := by
  obtain ⟨xs, m, _, _, hl, hlen, hg⟩ := DataW.trod_struct Try.underlying34 h
  have hC : Try.prog.cellsOf 34 = 4 := by kernel_rfl
  have k3 : Try.prog.cellsOf 3 = 1 := by kernel_rfl
  have k4 : Try.prog.cellsOf 4 = 1 := by kernel_rfl
  have k2 : Try.prog.cellsOf 2 = 1 := by kernel_rfl
  rw [hC] at hl
  match cs, hl with
  | [a, b, c, d], _ =>
    match xs, hlen with
    | [y0, y1, y2, y3], _ =>
      have h0 : DataW.trod enc Try.prog w base spare held m 3 [a] = some y0 := by have := hg 0 _ rfl; simpa [k3] using this
      have h1 : DataW.trod enc Try.prog w base spare held m 4 [b] = some y1 := by have := hg 1 _ rfl; simpa [k4] using this
      have h2 : DataW.trod enc Try.prog w base spare held m 4 [c] = some y2 := by have := hg 2 _ rfl; simpa [k4] using this
      have h3 : DataW.trod enc Try.prog w base spare held m 2 [d] = some y3 := by have := hg 3 _ rfl; simpa [k2] using this
      obtain ⟨x0, e0, _, _⟩ := DataW.trod_int (k := .i64) (by kernel_rfl) h0
      obtain ⟨x1, e1, _⟩ := DataW.trod_bool (by kernel_rfl) h1
      obtain ⟨x2, e2, _⟩ := DataW.trod_bool (by kernel_rfl) h2
      obtain ⟨x3, e3, _, _⟩ := DataW.trod_int (k := .i64) (by kernel_rfl) h3
      simp at e0 e1 e2 e3
      subst e0 e1 e2 e3
      exact ⟨x0, x1, x2, x3, rfl⟩
theorem leaf36 (n : Nat) (cs : List Value) (y : DataW H × List MemPlace) (h : DataW.trod enc Try.prog w base spare held n 36 cs = some y) : ∃ p : LetR, cs = letCells p ∧ True := by
  obtain ⟨xs, m, _, _, hl, hlen, hg⟩ := DataW.trod_struct Try.underlying36 h
  have hC : Try.prog.cellsOf 36 = 11 := by kernel_rfl
  have k3 : Try.prog.cellsOf 3 = 1 := by kernel_rfl
  have k4 : Try.prog.cellsOf 4 = 1 := by kernel_rfl
  have k34 : Try.prog.cellsOf 34 = 4 := by kernel_rfl
  rw [hC] at hl
  match cs, hl with
  | [a0, a1, a2, a3, a4, a5, a6, a7, a8, a9, a10], _ =>
    match xs, hlen with
    | [y0, y1, y2, y3, y4, y5, y6, y7], _ =>
      have h0 : DataW.trod enc Try.prog w base spare held m 3 [a0] = some y0 := by have := hg 0 _ rfl; simpa [k3] using this
      have h1 : DataW.trod enc Try.prog w base spare held m 3 [a1] = some y1 := by have := hg 1 _ rfl; simpa [k3] using this
      have h2 : DataW.trod enc Try.prog w base spare held m 3 [a2] = some y2 := by have := hg 2 _ rfl; simpa [k3] using this
      have h3 : DataW.trod enc Try.prog w base spare held m 3 [a3] = some y3 := by have := hg 3 _ rfl; simpa [k3] using this
      have h4 : DataW.trod enc Try.prog w base spare held m 3 [a4] = some y4 := by have := hg 4 _ rfl; simpa [k3] using this
      have h5 : DataW.trod enc Try.prog w base spare held m 3 [a5] = some y5 := by have := hg 5 _ rfl; simpa [k3] using this
      have h6 : DataW.trod enc Try.prog w base spare held m 4 [a6] = some y6 := by have := hg 6 _ rfl; simpa [k4] using this
      have h7 : DataW.trod enc Try.prog w base spare held m 34 [a7, a8, a9, a10] = some y7 := by have := hg 7 _ rfl; simpa [k34] using this
      obtain ⟨x0, e0, _, _⟩ := DataW.trod_int (k := .i64) (by kernel_rfl) h0
      obtain ⟨x1, e1, _, _⟩ := DataW.trod_int (k := .i64) (by kernel_rfl) h1
      obtain ⟨x2, e2, _, _⟩ := DataW.trod_int (k := .i64) (by kernel_rfl) h2
      obtain ⟨x3, e3, _, _⟩ := DataW.trod_int (k := .i64) (by kernel_rfl) h3
      obtain ⟨x4, e4, _, _⟩ := DataW.trod_int (k := .i64) (by kernel_rfl) h4
      obtain ⟨x5, e5, _, _⟩ := DataW.trod_int (k := .i64) (by kernel_rfl) h5
      obtain ⟨x6, e6, _⟩ := DataW.trod_bool (by kernel_rfl) h6
      obtain ⟨c, o, ha, d, e7⟩ := leaf34 _ _ _ h7
      simp at e0 e1 e2 e3 e4 e5 e6 e7
      obtain ⟨e7, e8, e9, e10⟩ := e7
      subst e0 e1 e2 e3 e4 e5 e6 e7 e8 e9 e10
      exact ⟨(x0, x1, x2, x3, x4, x5, x6, c, o, ha, d), rfl, trivial⟩
/-- A call of the net: its kind, its place, its letters. -/
abbrev ActN := Int × Int × Option Addr × Nat × List LetR
def nCells : ActN → List Value
  | (k, i, A, c, ys) => [.int .i64 k, .int .i64 i, .slice A ys.length c]
def n0 : ActN := (0, 0, none, 0, [])
def GoodN (w : World) : ActN → Prop
  | (k, i, A, c, ys) => RowL w A ys ∧ ys.length ≤ 9223372036854775807
theorem nCells_len (a : ActN) : (nCells a).length = 3 := by obtain ⟨k, i, A, c, ys⟩ := a; rfl
theorem leaf29 (n : Nat) (cs : List Value) (y : DataW H × List MemPlace) (h : DataW.trod enc Try.prog w base spare held n 29 cs = some y) : ∃ p : ActN, cs = nCells p ∧ GoodN w p := by
  obtain ⟨xs, m, _, _, hl, hlen, hg⟩ := DataW.trod_struct Try.underlying29 h
  have hC : Try.prog.cellsOf 29 = 3 := by kernel_rfl
  have k3 : Try.prog.cellsOf 3 = 1 := by kernel_rfl
  have k27 : Try.prog.cellsOf 27 = 1 := by kernel_rfl
  rw [hC] at hl
  match cs, hl with
  | [a, b, c], _ =>
    match xs, hlen with
    | [y0, y1, y2], _ =>
      have h0 : DataW.trod enc Try.prog w base spare held m 3 [a] = some y0 := by have := hg 0 _ rfl; simpa [k3] using this
      have h1 : DataW.trod enc Try.prog w base spare held m 3 [b] = some y1 := by have := hg 1 _ rfl; simpa [k3] using this
      have h2 : DataW.trod enc Try.prog w base spare held m 27 [c] = some y2 := by have := hg 2 _ rfl; simpa [k27] using this
      obtain ⟨x0, e0, _, _⟩ := DataW.trod_int (k := .i64) (by kernel_rfl) h0
      obtain ⟨x1, e1, _, _⟩ := DataW.trod_int (k := .i64) (by kernel_rfl) h1
      obtain ⟨A, cap, ys, e2, hc, hm, hn, hr, _⟩ := open_row3 letCells l0 (fun _ => True) (sz := 11) Try.underlying27 (by kernel_rfl) leaf36 h2
      simp at e0 e1 e2
      subst e0 e1 e2
      exact ⟨(x0, x1, A, cap, ys), rfl, hr, by unfold maxLen at hm; omega⟩
end
/-- A row of calls that came in. -/
def RowN (w : World) (A : Option Addr) (xs : List ActN) : Prop := Row nCells n0 3 w A xs ∧ ∀ i, i < xs.length → GoodN w (xs.getD i n0)
theorem GoodN.below {W W' : World} {a : ActN} (h : GoodN W a) (hb : Below W.heap.size W W') : GoodN W' a := by
  obtain ⟨k, i, A, c, ys⟩ := a
  exact ⟨RowL.below h.1 hb, h.2⟩
theorem RowN.below {W W' : World} {A : Option Addr} {xs : List ActN} (h : RowN W A xs) (hb : Below W.heap.size W W') : RowN W' A xs := ⟨Row.below h.1 nCells_len hb, fun i hi => (h.2 i hi).below hb⟩
/-- One call of the row, as the walk reads it. -/
theorem RowN.at_ {W : World} {A : Option Addr} {xs : List ActN} (h : RowN W A xs) {i : Nat} (hi : i < xs.length) : ∃ ad k p B c ys, A = some ad ∧ xs.getD i n0 = (k, p, B, c, ys) ∧ W.cell? (ad.add (i * 3)) = some (.int .i64 k) ∧ W.cell? ⟨(ad.add (i * 3)).block, (ad.add (i * 3)).off + 1, none⟩ = some (.int .i64 p) ∧ W.cell? ⟨(ad.add (i * 3)).block, (ad.add (i * 3)).off + 2, none⟩ = some (.slice B ys.length c) ∧ RowL W B ys ∧ ys.length ≤ 9223372036854775807 := by
  obtain ⟨ad, rfl, hc⟩ := h.1 i hi
  have hg := h.2 i hi
  generalize xs.getD i n0 = a at *
  obtain ⟨k, p, B, c, ys⟩ := a
  have d0 := hc 0 (by omega)
  have d1 := hc 1 (by omega)
  have d2 := hc 2 (by omega)
  rw [← Go.Deep.add_add] at d1 d2
  exact ⟨ad, k, p, B, c, ys, rfl, rfl, d0, by simpa [Addr.add, nCells] using d1, by simpa [Addr.add, nCells] using d2, hg.1, hg.2⟩
end Go.Proofs.Ytedfjadgfkbfiaa.NetW
