/- What the reference's Drop does where the letter is no ask. -/
import Derived.Test.YtedfjadgfkbfiaaNetRefOut
namespace Go.Proofs.Ytedfjadgfkbfiaa.NetW
open Go.RowKit Go.Proofs.YtedfjadgfkbfiaaW.PrintWords Go.Proofs.Ytedfjadgfkbfiaa.Opens
set_option linter.unusedVariables false
set_option linter.unusedSimpArgs false
attribute [local go_sem] nil27 World.cell?_alloc_some
attribute [local go_sem high] eqA36

set_option maxHeartbeats 4000000 in
set_option maxRecDepth 100000 in
theorem rdrop_no {rm : Int} {xs : List LetR} {v : Value} {g i : Nat} {w0 w : World} (hN : NetAt 47 rm xs v g w0 w) (hi : i < xs.length) (ha : ask (xs.getD i l0) = false) :
    Calls Try.prog 25 #[.pointer (some ⟨g, 0, none⟩), .int .i64 i] w (NPost 47 (.bool false) rm xs v g w0 w) := by
  obtain ⟨g', cap, rfl, hc63, hcap, hlt', hcell⟩ := own_some hN.own hi
  generalize hl : xs.getD i l0 = l at *
  obtain ⟨k1, f1, t1, b1, s1, wh1, wr1, cn1, o1, h1, d1⟩ := l
  clear hl
  simp only [letCells] at hcell
  have e0 : w.cell? ⟨g', i * 11, none⟩ = some (.int .i64 k1) := by simpa [Addr.add] using hcell 0 (by omega)
  clear hcell
  have hk : (k1 == 2) = false := ha
  have hk2 : ¬ (k1 = 2) := by simpa using hk
  have hk3 : (k1 != 2) = true := by simp [bne, hk]
  clear ha
  have c1 : w.cell? ⟨g, 1, none⟩ = some (.slice (some ⟨g', 0, none⟩) xs.length cap) := (blk_cell hN.blk 1).trans rfl
  have N := Aside0.mk hN
  have q0 : (0 : Int) ≤ (i : Int) := by omega
  have q1 : (i : Int) < (xs.length : Int) := by omega
  have q2 : ¬ ((i : Int) < 0) := by omega
  clear hN
  go_enter Try.func25, Try.ntmps25
  go_wp2
  go_ret
  exact ⟨_, rfl, N.out, Chg.refl _ _ _, .inl rfl⟩

end Go.Proofs.Ytedfjadgfkbfiaa.NetW
