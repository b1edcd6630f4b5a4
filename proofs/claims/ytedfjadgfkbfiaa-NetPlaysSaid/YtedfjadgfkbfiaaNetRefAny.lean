/- The reference's Send, Take, Drop: one contract each. -/
import Derived.Test.YtedfjadgfkbfiaaNetRefTake
namespace Go.Proofs.Ytedfjadgfkbfiaa.NetW
open Go.RowKit Go.Proofs.YtedfjadgfkbfiaaW.PrintWords Go.Proofs.Ytedfjadgfkbfiaa.Opens
set_option linter.unusedVariables false
set_option linter.unusedSimpArgs false
attribute [local go_sem] nil27 World.cell?_alloc_some
attribute [local go_sem high] eqA36

set_option maxHeartbeats 16000000 in
set_option maxRecDepth 100000 in
theorem rdrop_yes {rm : Int} {xs : List LetR} {v : Value} {g i : Nat} {w0 w : World} (hN : NetAt 47 rm xs v g w0 w) (hi : i < xs.length) (ha : ask (xs.getD i l0) = true) :
    Calls Try.prog 25 #[.pointer (some ⟨g, 0, none⟩), .int .i64 i] w (NPost 47 (.bool true) rm (xs.eraseIdx i) v g w0 w) := by
  have TK := Aside0.mk (rtake_yes hN hi)
  obtain ⟨g', cap, rfl, hc63, hcap, hlt', hcell⟩ := own_some hN.own hi
  generalize hl : xs.getD i l0 = l at *
  obtain ⟨k1, f1, t1, b1, s1, wh1, wr1, cn1, o1, h1, d1⟩ := l
  clear hl
  simp only [letCells] at hcell
  have e0 : w.cell? ⟨g', i * 11, none⟩ = some (.int .i64 k1) := by simpa [Addr.add] using hcell 0 (by omega)
  clear hcell
  have hk : (k1 == 2) = true := ha
  have hk2 : k1 = 2 := by simpa using hk
  have hk3 : (k1 != 2) = false := by simp [bne, hk]
  clear ha
  have c1 : w.cell? ⟨g, 1, none⟩ = some (.slice (some ⟨g', 0, none⟩) xs.length cap) := (blk_cell hN.blk 1).trans rfl
  have q0 : (0 : Int) ≤ (i : Int) := by omega
  have q1 : (i : Int) < (xs.length : Int) := by omega
  have q2 : ¬ ((i : Int) < 0) := by omega
  clear hN
  go_enter Try.func25, Try.ntmps25
  go_wp2_with fail
  refine TK.out.mono ?_
  rintro e w1 ⟨v1, rfl, hN1, hC1, hS1⟩
  have N1 := Aside0.mk hN1
  have C1 := Aside0.mk hC1
  have S1 := Aside0.mk hS1
  clear hN1 hC1 hS1
  go_wp2
  go_ret
  exact ⟨_, rfl, N1.out, C1.out, S1.out⟩

theorem rdrop_any {rm : Int} {xs : List LetR} {v : Value} {g : Nat} (i : Int) {w0 w : World} (hN : NetAt 47 rm xs v g w0 w) :
    Calls Try.prog 25 #[.pointer (some ⟨g, 0, none⟩), .int .i64 i] w (NPost 47 (.bool (loses xs i)) rm (dropped xs i) v g w0 w) := by
  cases h : inside xs i with
  | false =>
    have h1 : loses xs i = false := by simp [loses, h]
    rw [show dropped xs i = xs by simp [dropped, h1], h1]
    exact rdrop_out hN h
  | true =>
    obtain ⟨n, rfl, hn⟩ := inside_nat h
    cases h2 : ask (xs.getD n l0) with
    | false =>
      have h1 : loses xs n = false := by simp only [loses, h, Int.toNat_natCast, h2]; rfl
      rw [show dropped xs n = xs by simp [dropped, h1], h1]
      exact rdrop_no hN hn h2
    | true =>
      have h1 : loses xs n = true := by simp only [loses, h, Int.toNat_natCast, h2]; rfl
      rw [show dropped xs n = xs.eraseIdx n by simp [dropped, h1], h1]
      exact rdrop_yes hN hn h2
theorem rtake_any {rm : Int} {xs : List LetR} {v : Value} {g : Nat} (i : Int) {w0 w : World} (hN : NetAt 47 rm xs v g w0 w) :
    Calls Try.prog 24 #[.pointer (some ⟨g, 0, none⟩), .int .i64 i] w (NPost 47 (.tuple #[letV (got xs i), .bool (inside xs i)]) rm (taken xs i) v g w0 w) := by
  cases h : inside xs i with
  | false =>
    rw [show taken xs i = xs by simp [taken, h], show got xs i = l0 by simp [got, h]]
    exact rtake_out hN h
  | true =>
    obtain ⟨n, rfl, hn⟩ := inside_nat h
    rw [show taken xs n = xs.eraseIdx n by simp [taken, h], show got xs n = xs.getD n l0 by simp [got, h]]
    exact rtake_yes hN hn
theorem rsend_any {rm : Int} {xs ys : List LetR} {v : Value} {g c2 : Nat} {A2 : Option Addr} {w0 w : World} (hN : NetAt 47 rm xs v g w0 w) (hl : ys.length ≤ 4611686018427387904) (hR : RowL w A2 ys) :
    Calls Try.prog 23 #[.pointer (some ⟨g, 0, none⟩), .slice A2 ys.length c2] w (NPost 47 (.bool (goes rm xs ys)) rm (sent rm xs ys) v g w0 w) := by
  cases h : goes rm xs ys with
  | false =>
    rw [show sent rm xs ys = xs by simp [sent, h]]
    exact rsend_no hN hl (by simpa [goes] using h)
  | true =>
    rw [show sent rm xs ys = xs ++ ys by simp [sent, h]]
    exact rsend_yes hN hR (by simpa [goes] using h)

end Go.Proofs.Ytedfjadgfkbfiaa.NetW
