/- Arguments that are an array by value, opened to their numbers. -/
import Derived.Test.YtedfjadgfkbfiaaProg
import Derived.Lib.SmallJoins
import Derived.OpenShut
import Derived.Carry
namespace Go.Proofs.Ytedfjadgfkbfiaa.Opens
open Go.Joins Go.ChangeShapes Go.WideShapes Go.RowKit Go.Deep
section
variable {H : Type} {enc : TypeId × Value → H} {P : Program} {w : World} {base : Nat} {spare : Nat → Bool} {held : Bool}

theorem open_two {r : Reach} {b0 : Nat} {v : Value} {d : DataW H} {p : List MemPlace} (hv : Value.okWide Try.prog w r b0 59 v) (h : DataW.Trod enc Try.prog w base spare held 59 v d p) :
    ∃ (x0 : Int) (x1 : Int), v = .agg #[.int .i64 x0, .int .i64 x1] ∧ p = [] ∧ (Lit.int .i64 x0).wf = true ∧ (Lit.int .i64 x1).wf = true := by
  have hs : Try.prog.underlying 59 = some (.array 2 3) := by kernel_rfl
  have hc3 : Try.prog.cellsOf 3 = 1 := by kernel_rfl
  have hC : Try.prog.cellsOf 59 = 2 := by kernel_rfl
  have hcs : ∃ cs, v = .agg cs ∧ cs.size = Try.prog.cellsOf 59 := by
    simp only [Value.okWide, hs] at hv
    obtain ⟨cs, h1, h2, _⟩ := hv
    exact ⟨cs, h1, h2⟩
  obtain ⟨cs, rfl, hsz⟩ := hcs
  obtain ⟨l⟩ := cs
  match l, hsz.trans hC with
  | [c0, c1], _ =>
    obtain ⟨fuel, hf⟩ := h
    obtain ⟨xs, m, _, hx, _, hlen, hg⟩ := DataW.trod_array hs hf
    match xs, hlen with
    | [y0, y1], _ =>
      simp only [Prod.mk.injEq] at hx
      have h0 : DataW.trod enc Try.prog w base spare held m 3 [c0] = some y0 := by simpa [Value.cells, hc3] using hg 0 (by omega)
      have h1 : DataW.trod enc Try.prog w base spare held m 3 [c1] = some y1 := by simpa [Value.cells, hc3] using hg 1 (by omega)
      obtain ⟨x0, e0, rfl, w0⟩ := DataW.trod_int (k := .i64) (by kernel_rfl) h0
      obtain ⟨x1, e1, rfl, w1⟩ := DataW.trod_int (k := .i64) (by kernel_rfl) h1
      simp only [List.cons.injEq, and_true] at e0 e1
      subst e0 e1
      exact ⟨x0, x1, rfl, by simpa using hx.2, w0, w1⟩

end
theorem laid : laidOutB Try.prog = true := by kernel_rfl
theorem kept {H : Type} {enc : TypeId × Value → H} {t : TypeId} (hr : Try.prog.readableRec t = true) (hrow : t < Try.prog.types.size) {W W' : World} {v : Value} {d : DataW H} {ps : List MemPlace}
    (h : DataW.Trod enc Try.prog W 0 (fun _ => true) true t v d ps) (hb : Below W.heap.size W W') (hp : ps = []) :
    DataW.Trod enc Try.prog W' 0 (fun b => decide (b < W.heap.size)) true t v d ps :=
  Below.trod laid hr hrow h hb (by subst hp; simp)
end Go.Proofs.Ytedfjadgfkbfiaa.Opens
