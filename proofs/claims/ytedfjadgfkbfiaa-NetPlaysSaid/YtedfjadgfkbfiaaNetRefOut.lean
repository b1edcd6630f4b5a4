/- What the reference's Take and Drop do where nothing is taken. -/
import Derived.Test.YtedfjadgfkbfiaaNetRef
namespace Go.Proofs.Ytedfjadgfkbfiaa.NetW
open Go.RowKit Go.Proofs.YtedfjadgfkbfiaaW.PrintWords Go.Proofs.Ytedfjadgfkbfiaa.Opens
set_option linter.unusedVariables false
set_option linter.unusedSimpArgs false
attribute [local go_sem] nil27 World.cell?_alloc_some
attribute [local go_sem high] eqA36

set_option maxHeartbeats 4000000 in
set_option maxRecDepth 100000 in
theorem rtake_out {rm : Int} {xs : List LetR} {v : Value} {g : Nat} {i : Int} {w0 w : World} (hN : NetAt 47 rm xs v g w0 w) (hi : inside xs i = false) :
    Calls Try.prog 24 #[.pointer (some ⟨g, 0, none⟩), .int .i64 i] w (NPost 47 (.tuple #[letV l0, .bool false]) rm xs v g w0 w) := by
  obtain ⟨A, c, rfl, hr, hc, hn⟩ := OwnL.row hN.own
  have c1 : w.cell? ⟨g, 1, none⟩ = some (.slice A xs.length c) := (blk_cell hN.blk 1).trans rfl
  have N := Aside0.mk hN
  have hio : i < 0 ∨ (0 ≤ i ∧ (xs.length : Int) ≤ i) := by simp [inside] at hi; omega
  clear hN hr hi
  rcases hio with h1 | ⟨h1, h2⟩
  all_goals
    go_enter Try.func24, Try.ntmps24
    go_wp2
    refine bodyPost_ret (v := .tuple #[letV l0, .bool false]) (by simp [results, Try.results24, go_sem]; rfl) rfl ?_
    exact ⟨_, rfl, N.out.below (below_alloc (Below.refl _ _) _), Chg.of_below _ _ (below_alloc (Below.refl _ _) _), .inl rfl⟩

set_option maxHeartbeats 4000000 in
set_option maxRecDepth 100000 in
theorem rdrop_out {rm : Int} {xs : List LetR} {v : Value} {g : Nat} {i : Int} {w0 w : World} (hN : NetAt 47 rm xs v g w0 w) (hi : inside xs i = false) :
    Calls Try.prog 25 #[.pointer (some ⟨g, 0, none⟩), .int .i64 i] w (NPost 47 (.bool false) rm xs v g w0 w) := by
  obtain ⟨A, c, rfl, hr, hc, hn⟩ := OwnL.row hN.own
  have c1 : w.cell? ⟨g, 1, none⟩ = some (.slice A xs.length c) := (blk_cell hN.blk 1).trans rfl
  have N := Aside0.mk hN
  have hio : i < 0 ∨ (0 ≤ i ∧ (xs.length : Int) ≤ i) := by simp [inside] at hi; omega
  clear hN hr hi
  rcases hio with h1 | ⟨h1, h2⟩
  all_goals
    go_enter Try.func25, Try.ntmps25
    go_wp2
    go_ret
    exact ⟨_, rfl, N.out, Chg.refl _ _ _, .inl rfl⟩

end Go.Proofs.Ytedfjadgfkbfiaa.NetW
