/- Arguments that are structs or an array by value, opened to their numbers. -/
import Derived.Test.YtghgmfnebiicgaaProg
import Derived.Lib.SmallJoins
import Derived.OpenShut
import Derived.Carry
namespace Go.Proofs.Ytghgmfnebiicgaa.Opens
open Go.Joins Go.ChangeShapes Go.WideShapes Go.RowKit Go.Deep
section
variable {H : Type} {enc : TypeId × Value → H} {P : Program} {w : World} {base : Nat} {spare : Nat → Bool} {held : Bool}

theorem open_agg3' {r : Reach} {b0 : Nat} {t : TypeId} {f0 f1 f2 : Field} {v : Value} {d : DataW H} {p : List MemPlace} (hs : P.underlying t = some (.struct #[f0, f1, f2])) (hone : oneCellFields P #[f0, f1, f2] = true) (hC : P.cellsOf t = 3)
    (hv : Value.okWide P w r b0 t v) (h : DataW.Trod enc P w base spare held t v d p) :
    ∃ (v0 v1 v2 : Value) (y0 y1 y2 : DataW H × List MemPlace) (n : Nat), v = .agg #[v0, v1, v2] ∧ d = .agg [y0.1, y1.1, y2.1] ∧ p = y0.2 ++ (y1.2 ++ y2.2) ∧
      DataW.trod enc P w base spare held n f0.type [v0] = some y0 ∧ DataW.trod enc P w base spare held n f1.type [v1] = some y1 ∧ DataW.trod enc P w base spare held n f2.type [v2] = some y2 := by
  obtain ⟨cs, rfl, hsz⟩ := okWide_struct hs hv
  obtain ⟨l⟩ := cs
  match l, hsz.trans hC with
  | [c0, c1, c2], _ =>
    obtain ⟨fuel, hf⟩ := h
    obtain ⟨xs, n, _, hx, _, hlen, hg⟩ := DataW.trod_struct hs hf
    obtain ⟨o0, k0⟩ := hone_of hone 0 f0 rfl
    obtain ⟨o1, k1⟩ := hone_of hone 1 f1 rfl
    obtain ⟨o2, k2⟩ := hone_of hone 2 f2 rfl
    match xs, hlen with
    | [y0, y1, y2], _ =>
      simp only [Prod.mk.injEq] at hx
      exact ⟨c0, c1, c2, y0, y1, y2, n, rfl, by simpa using hx.1, by simpa using hx.2, by simpa [Value.cells, o0, k0] using hg 0 f0 rfl, by simpa [Value.cells, o1, k1] using hg 1 f1 rfl, by simpa [Value.cells, o2, k2] using hg 2 f2 rfl⟩

theorem open_agg5' {r : Reach} {b0 : Nat} {t : TypeId} {f0 f1 f2 f3 f4 : Field} {v : Value} {d : DataW H} {p : List MemPlace} (hs : P.underlying t = some (.struct #[f0, f1, f2, f3, f4])) (hone : oneCellFields P #[f0, f1, f2, f3, f4] = true) (hC : P.cellsOf t = 5)
    (hv : Value.okWide P w r b0 t v) (h : DataW.Trod enc P w base spare held t v d p) :
    ∃ (v0 v1 v2 v3 v4 : Value) (y0 y1 y2 y3 y4 : DataW H × List MemPlace) (n : Nat), v = .agg #[v0, v1, v2, v3, v4] ∧ d = .agg [y0.1, y1.1, y2.1, y3.1, y4.1] ∧ p = y0.2 ++ (y1.2 ++ (y2.2 ++ (y3.2 ++ y4.2))) ∧
      DataW.trod enc P w base spare held n f0.type [v0] = some y0 ∧ DataW.trod enc P w base spare held n f1.type [v1] = some y1 ∧ DataW.trod enc P w base spare held n f2.type [v2] = some y2 ∧ DataW.trod enc P w base spare held n f3.type [v3] = some y3 ∧ DataW.trod enc P w base spare held n f4.type [v4] = some y4 := by
  obtain ⟨cs, rfl, hsz⟩ := okWide_struct hs hv
  obtain ⟨l⟩ := cs
  match l, hsz.trans hC with
  | [c0, c1, c2, c3, c4], _ =>
    obtain ⟨fuel, hf⟩ := h
    obtain ⟨xs, n, _, hx, _, hlen, hg⟩ := DataW.trod_struct hs hf
    obtain ⟨o0, k0⟩ := hone_of hone 0 f0 rfl
    obtain ⟨o1, k1⟩ := hone_of hone 1 f1 rfl
    obtain ⟨o2, k2⟩ := hone_of hone 2 f2 rfl
    obtain ⟨o3, k3⟩ := hone_of hone 3 f3 rfl
    obtain ⟨o4, k4⟩ := hone_of hone 4 f4 rfl
    match xs, hlen with
    | [y0, y1, y2, y3, y4], _ =>
      simp only [Prod.mk.injEq] at hx
      exact ⟨c0, c1, c2, c3, c4, y0, y1, y2, y3, y4, n, rfl, by simpa using hx.1, by simpa using hx.2, by simpa [Value.cells, o0, k0] using hg 0 f0 rfl, by simpa [Value.cells, o1, k1] using hg 1 f1 rfl, by simpa [Value.cells, o2, k2] using hg 2 f2 rfl, by simpa [Value.cells, o3, k3] using hg 3 f3 rfl, by simpa [Value.cells, o4, k4] using hg 4 f4 rfl⟩

theorem open_agg9' {r : Reach} {b0 : Nat} {t : TypeId} {f0 f1 f2 f3 f4 f5 f6 f7 f8 : Field} {v : Value} {d : DataW H} {p : List MemPlace} (hs : P.underlying t = some (.struct #[f0, f1, f2, f3, f4, f5, f6, f7, f8])) (hone : oneCellFields P #[f0, f1, f2, f3, f4, f5, f6, f7, f8] = true) (hC : P.cellsOf t = 9)
    (hv : Value.okWide P w r b0 t v) (h : DataW.Trod enc P w base spare held t v d p) :
    ∃ (v0 v1 v2 v3 v4 v5 v6 v7 v8 : Value) (y0 y1 y2 y3 y4 y5 y6 y7 y8 : DataW H × List MemPlace) (n : Nat), v = .agg #[v0, v1, v2, v3, v4, v5, v6, v7, v8] ∧ d = .agg [y0.1, y1.1, y2.1, y3.1, y4.1, y5.1, y6.1, y7.1, y8.1] ∧ p = y0.2 ++ (y1.2 ++ (y2.2 ++ (y3.2 ++ (y4.2 ++ (y5.2 ++ (y6.2 ++ (y7.2 ++ y8.2))))))) ∧
      DataW.trod enc P w base spare held n f0.type [v0] = some y0 ∧ DataW.trod enc P w base spare held n f1.type [v1] = some y1 ∧ DataW.trod enc P w base spare held n f2.type [v2] = some y2 ∧ DataW.trod enc P w base spare held n f3.type [v3] = some y3 ∧ DataW.trod enc P w base spare held n f4.type [v4] = some y4 ∧ DataW.trod enc P w base spare held n f5.type [v5] = some y5 ∧ DataW.trod enc P w base spare held n f6.type [v6] = some y6 ∧ DataW.trod enc P w base spare held n f7.type [v7] = some y7 ∧ DataW.trod enc P w base spare held n f8.type [v8] = some y8 := by
  obtain ⟨cs, rfl, hsz⟩ := okWide_struct hs hv
  obtain ⟨l⟩ := cs
  match l, hsz.trans hC with
  | [c0, c1, c2, c3, c4, c5, c6, c7, c8], _ =>
    obtain ⟨fuel, hf⟩ := h
    obtain ⟨xs, n, _, hx, _, hlen, hg⟩ := DataW.trod_struct hs hf
    obtain ⟨o0, k0⟩ := hone_of hone 0 f0 rfl
    obtain ⟨o1, k1⟩ := hone_of hone 1 f1 rfl
    obtain ⟨o2, k2⟩ := hone_of hone 2 f2 rfl
    obtain ⟨o3, k3⟩ := hone_of hone 3 f3 rfl
    obtain ⟨o4, k4⟩ := hone_of hone 4 f4 rfl
    obtain ⟨o5, k5⟩ := hone_of hone 5 f5 rfl
    obtain ⟨o6, k6⟩ := hone_of hone 6 f6 rfl
    obtain ⟨o7, k7⟩ := hone_of hone 7 f7 rfl
    obtain ⟨o8, k8⟩ := hone_of hone 8 f8 rfl
    match xs, hlen with
    | [y0, y1, y2, y3, y4, y5, y6, y7, y8], _ =>
      simp only [Prod.mk.injEq] at hx
      exact ⟨c0, c1, c2, c3, c4, c5, c6, c7, c8, y0, y1, y2, y3, y4, y5, y6, y7, y8, n, rfl, by simpa using hx.1, by simpa using hx.2, by simpa [Value.cells, o0, k0] using hg 0 f0 rfl, by simpa [Value.cells, o1, k1] using hg 1 f1 rfl, by simpa [Value.cells, o2, k2] using hg 2 f2 rfl, by simpa [Value.cells, o3, k3] using hg 3 f3 rfl, by simpa [Value.cells, o4, k4] using hg 4 f4 rfl, by simpa [Value.cells, o5, k5] using hg 5 f5 rfl, by simpa [Value.cells, o6, k6] using hg 6 f6 rfl, by simpa [Value.cells, o7, k7] using hg 7 f7 rfl, by simpa [Value.cells, o8, k8] using hg 8 f8 rfl⟩

theorem open_cfg {r : Reach} {b0 : Nat} {v : Value} {d : DataW H} {p : List MemPlace} (hv : Value.okWide Try.prog w r b0 23 v) (h : DataW.Trod enc Try.prog w base spare held 23 v d p) :
    ∃ (x0 : Int) (x1 : Int) (x2 : Int) (x3 : Int) (x4 : Int) (x5 : Int) (x6 : Int) (x7 : Int) (x8 : Int), v = .agg #[.int .i64 x0, .int .i64 x1, .int .i64 x2, .int .i64 x3, .int .i64 x4, .int .i64 x5, .int .i64 x6, .int .i64 x7, .int .i64 x8] ∧ p = [] ∧ (Lit.int .i64 x0).wf = true ∧ (Lit.int .i64 x1).wf = true ∧ (Lit.int .i64 x2).wf = true ∧ (Lit.int .i64 x3).wf = true ∧ (Lit.int .i64 x4).wf = true ∧ (Lit.int .i64 x5).wf = true ∧ (Lit.int .i64 x6).wf = true ∧ (Lit.int .i64 x7).wf = true ∧ (Lit.int .i64 x8).wf = true := by
  obtain ⟨v0, v1, v2, v3, v4, v5, v6, v7, v8, y0, y1, y2, y3, y4, y5, y6, y7, y8, m, rfl, -, hp, h0, h1, h2, h3, h4, h5, h6, h7, h8⟩ := open_agg9' Try.underlying23 (by kernel_rfl) (by kernel_rfl) hv h
  obtain ⟨x0, e0, rfl, w0⟩ := DataW.trod_int (k := .i64) (by kernel_rfl) h0
  obtain ⟨x1, e1, rfl, w1⟩ := DataW.trod_int (k := .i64) (by kernel_rfl) h1
  obtain ⟨x2, e2, rfl, w2⟩ := DataW.trod_int (k := .i64) (by kernel_rfl) h2
  obtain ⟨x3, e3, rfl, w3⟩ := DataW.trod_int (k := .i64) (by kernel_rfl) h3
  obtain ⟨x4, e4, rfl, w4⟩ := DataW.trod_int (k := .i64) (by kernel_rfl) h4
  obtain ⟨x5, e5, rfl, w5⟩ := DataW.trod_int (k := .i64) (by kernel_rfl) h5
  obtain ⟨x6, e6, rfl, w6⟩ := DataW.trod_int (k := .i64) (by kernel_rfl) h6
  obtain ⟨x7, e7, rfl, w7⟩ := DataW.trod_int (k := .i64) (by kernel_rfl) h7
  obtain ⟨x8, e8, rfl, w8⟩ := DataW.trod_int (k := .i64) (by kernel_rfl) h8
  simp only [List.cons.injEq, and_true] at e0 e1 e2 e3 e4 e5 e6 e7 e8
  subst e0 e1 e2 e3 e4 e5 e6 e7 e8
  exact ⟨x0, x1, x2, x3, x4, x5, x6, x7, x8, rfl, by simpa using hp, w0, w1, w2, w3, w4, w5, w6, w7, w8⟩

theorem open_ent {r : Reach} {b0 : Nat} {v : Value} {d : DataW H} {p : List MemPlace} (hv : Value.okWide Try.prog w r b0 25 v) (h : DataW.Trod enc Try.prog w base spare held 25 v d p) :
    ∃ (x0 : Int) (x1 : Int) (x2 : Int) (x3 : Int) (x4 : Int), v = .agg #[.int .i64 x0, .int .i64 x1, .int .i64 x2, .int .i64 x3, .int .i64 x4] ∧ p = [] ∧ (Lit.int .i64 x0).wf = true ∧ (Lit.int .i64 x1).wf = true ∧ (Lit.int .i64 x2).wf = true ∧ (Lit.int .i64 x3).wf = true ∧ (Lit.int .i64 x4).wf = true := by
  obtain ⟨v0, v1, v2, v3, v4, y0, y1, y2, y3, y4, m, rfl, -, hp, h0, h1, h2, h3, h4⟩ := open_agg5' Try.underlying25 (by kernel_rfl) (by kernel_rfl) hv h
  obtain ⟨x0, e0, rfl, w0⟩ := DataW.trod_int (k := .i64) (by kernel_rfl) h0
  obtain ⟨x1, e1, rfl, w1⟩ := DataW.trod_int (k := .i64) (by kernel_rfl) h1
  obtain ⟨x2, e2, rfl, w2⟩ := DataW.trod_int (k := .i64) (by kernel_rfl) h2
  obtain ⟨x3, e3, rfl, w3⟩ := DataW.trod_int (k := .i64) (by kernel_rfl) h3
  obtain ⟨x4, e4, rfl, w4⟩ := DataW.trod_int (k := .i64) (by kernel_rfl) h4
  simp only [List.cons.injEq, and_true] at e0 e1 e2 e3 e4
  subst e0 e1 e2 e3 e4
  exact ⟨x0, x1, x2, x3, x4, rfl, by simpa using hp, w0, w1, w2, w3, w4⟩

theorem open_op {r : Reach} {b0 : Nat} {v : Value} {d : DataW H} {p : List MemPlace} (hv : Value.okWide Try.prog w r b0 29 v) (h : DataW.Trod enc Try.prog w base spare held 29 v d p) :
    ∃ (x0 : Int) (x1 : Bool) (x2 : Int), v = .agg #[.int .i64 x0, .bool x1, .int .i64 x2] ∧ p = [] ∧ (Lit.int .i64 x0).wf = true ∧ (Lit.int .i64 x2).wf = true := by
  obtain ⟨v0, v1, v2, y0, y1, y2, m, rfl, -, hp, h0, h1, h2⟩ := open_agg3' Try.underlying29 (by kernel_rfl) (by kernel_rfl) hv h
  obtain ⟨x0, e0, rfl, w0⟩ := DataW.trod_int (k := .i64) (by kernel_rfl) h0
  obtain ⟨x1, e1, rfl⟩ := DataW.trod_bool (by kernel_rfl) h1
  obtain ⟨x2, e2, rfl, w2⟩ := DataW.trod_int (k := .i64) (by kernel_rfl) h2
  simp only [List.cons.injEq, and_true] at e0 e1 e2
  subst e0 e1 e2
  exact ⟨x0, x1, x2, rfl, by simpa using hp, w0, w2⟩

theorem open_timer {r : Reach} {b0 : Nat} {v : Value} {d : DataW H} {p : List MemPlace} (hv : Value.okWide Try.prog w r b0 38 v) (h : DataW.Trod enc Try.prog w base spare held 38 v d p) :
    ∃ (x0 : Int) (x1 : Int) (x2 : Bool), v = .agg #[.int .i64 x0, .int .i64 x1, .bool x2] ∧ p = [] ∧ (Lit.int .i64 x0).wf = true ∧ (Lit.int .i64 x1).wf = true := by
  obtain ⟨v0, v1, v2, y0, y1, y2, m, rfl, -, hp, h0, h1, h2⟩ := open_agg3' Try.underlying38 (by kernel_rfl) (by kernel_rfl) hv h
  obtain ⟨x0, e0, rfl, w0⟩ := DataW.trod_int (k := .i64) (by kernel_rfl) h0
  obtain ⟨x1, e1, rfl, w1⟩ := DataW.trod_int (k := .i64) (by kernel_rfl) h1
  obtain ⟨x2, e2, rfl⟩ := DataW.trod_bool (by kernel_rfl) h2
  simp only [List.cons.injEq, and_true] at e0 e1 e2
  subst e0 e1 e2
  exact ⟨x0, x1, x2, rfl, by simpa using hp, w0, w1⟩

theorem open_two {r : Reach} {b0 : Nat} {v : Value} {d : DataW H} {p : List MemPlace} (hv : Value.okWide Try.prog w r b0 35 v) (h : DataW.Trod enc Try.prog w base spare held 35 v d p) :
    ∃ (x0 : Int) (x1 : Int), v = .agg #[.int .i64 x0, .int .i64 x1] ∧ p = [] ∧ (Lit.int .i64 x0).wf = true ∧ (Lit.int .i64 x1).wf = true := by
  have hs : Try.prog.underlying 35 = some (.array 2 3) := by kernel_rfl
  have hc3 : Try.prog.cellsOf 3 = 1 := by kernel_rfl
  have hC : Try.prog.cellsOf 35 = 2 := by kernel_rfl
  have hcs : ∃ cs, v = .agg cs ∧ cs.size = Try.prog.cellsOf 35 := by
    simp only [Value.okWide, hs] at hv
    obtain ⟨cs, h1, h2, _⟩ := hv
    exact ⟨cs, h1, h2⟩
  obtain ⟨cs, rfl, hsz⟩ := hcs
  obtain ⟨l⟩ := cs
  match l, hsz.trans hC with
  | [c0, c1], _ =>
    obtain ⟨fuel, hf⟩ := h
    obtain ⟨xs, m, _, hx, _, hlen, hg⟩ := DataW.trod_array hs hf
    match xs, hlen with
    | [y0, y1], _ =>
      simp only [Prod.mk.injEq] at hx
      have h0 : DataW.trod enc Try.prog w base spare held m 3 [c0] = some y0 := by simpa [Value.cells, hc3] using hg 0 (by omega)
      have h1 : DataW.trod enc Try.prog w base spare held m 3 [c1] = some y1 := by simpa [Value.cells, hc3] using hg 1 (by omega)
      obtain ⟨x0, e0, rfl, w0⟩ := DataW.trod_int (k := .i64) (by kernel_rfl) h0
      obtain ⟨x1, e1, rfl, w1⟩ := DataW.trod_int (k := .i64) (by kernel_rfl) h1
      simp only [List.cons.injEq, and_true] at e0 e1
      subst e0 e1
      exact ⟨x0, x1, rfl, by simpa using hx.2, w0, w1⟩

end
theorem laid : laidOutB Try.prog = true := by kernel_rfl
theorem kept {H : Type} {enc : TypeId × Value → H} {t : TypeId} (hr : Try.prog.readableRec t = true) (hrow : t < Try.prog.types.size) {W W' : World} {v : Value} {d : DataW H} {ps : List MemPlace}
    (h : DataW.Trod enc Try.prog W 0 (fun _ => true) true t v d ps) (hb : Below W.heap.size W W') (hp : ps = []) :
    DataW.Trod enc Try.prog W' 0 (fun b => decide (b < W.heap.size)) true t v d ps :=
  Below.trod laid hr hrow h hb (by subst hp; simp)
end Go.Proofs.Ytghgmfnebiicgaa.Opens
