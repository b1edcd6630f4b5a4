/- What the reference's Double comes to, at the most 2^20. -/
import Derived.Test.YtedfjadgfkbfiaaTimer
import Derived.Deep.LoopGhost
namespace Go.Proofs.Ytedfjadgfkbfiaa.Timer
open Go.RowKit Go.Proofs.YtedfjadgfkbfiaaW.PrintWords Go.Proofs.YtedfjadgfkbfiaaW.PrintLast Go.Proofs.YtedfjadgfkbfiaaW.PrintMore Go.Proofs.Ytedfjadgfkbfiaa.Aid
set_option linter.unusedVariables false

/-- Doubled from the i-th round on, of t rounds, 70 at most. -/
def rest (t : Int) (i m : Int) : Int := dbl ((if t < 70 then t else 70) - i).toNat m 1048576
theorem rest_end {t i m : Int} (h : ¬ i < t ∨ ¬ i < 70) : rest t i m = m := by
  unfold rest
  rw [show ((if t < 70 then t else 70) - i).toNat = 0 by split <;> omega]; rfl
theorem rest_step {t i m : Int} (h : i < t) (h' : i < 70) : rest t i m = if 2 * m > 1048576 then 1048576 else rest t (i + 1) (2 * m) := by
  unfold rest
  rw [show ((if t < 70 then t else 70) - i).toNat = ((if t < 70 then t else 70) - (i + 1)).toNat + 1 by split <;> omega]
  rfl
theorem rest_start {n t : Int} (h0 : 0 ≤ n) (h1 : n ≤ 1048576) : rest t 0 n = Dbl n t 1048576 := by
  unfold rest Dbl
  simp only []
  rw [if_neg (show ¬ n < 0 by omega), if_neg (show ¬ (1048576 : Int) < 0 by omega), if_neg (show ¬ n > 1048576 by omega)]
  by_cases ht : t < 70
  · rw [if_pos ht, Int.sub_zero]
    by_cases hz : t < 0
    · rw [if_pos hz, show t.toNat = 0 by omega]
    · rw [if_neg hz]
  · rw [if_neg ht, dbl_stable _ (if t < 0 then 0 else t.toNat) n 1048576 h0 h1 (by omega) (by omega) (by rw [if_neg (by omega)]; omega)]

def RIr (n : Int) (w : World) (e : Ending) (w' : World) : Prop := e = .returned (.int .i64 n) ∧ w = w'

set_option maxHeartbeats 4000000 in
set_option maxRecDepth 100000 in
theorem refDouble_in (n t : Int) (w : World) (hn : n ≤ 1048576) :
    Calls Try.prog 52 #[.int .i64 n, .int .i64 t, .int .i64 1048576] w (RIr (Dbl n t 1048576) w) := by
  have hst : ∀ m, 0 ≤ m → m ≤ 1048576 → (n < 0 ∧ m = 0 ∨ ¬ n < 0 ∧ m = n) → rest t 0 m = Dbl n t 1048576 := by
    intro m m0 m1 h
    rcases h with ⟨h, rfl⟩ | ⟨h, rfl⟩
    · rw [rest_start m0 m1]
      unfold Dbl
      simp only []
      rw [if_pos h, if_neg (show ¬ (0 : Int) < 0 by omega)]
    · exact rest_start m0 m1
  have Hst := Aside0.mk hst
  clear hst
  by_cases hneg : n < 0
  all_goals
    go_enter Try.func52, Try.ntmps52
    go_wp2
    go_loop [0, 7] (fun v0 v7 => ∃ m i : Int, v0 = .int .i64 m ∧ v7 = .int .i64 i ∧ 0 ≤ i ∧ i ≤ 70 ∧ 0 ≤ m ∧ m ≤ 1048576 ∧ Aside0 (rest t i m = Dbl n t 1048576)) (fun _ v7 => (70 - intOf v7).toNat)
    case atStart => first | exact ⟨0, 0, rfl, rfl, by omega, by omega, by omega, by omega, ⟨Hst.out 0 (by omega) (by omega) (.inl ⟨hneg, rfl⟩)⟩⟩ | exact ⟨n, 0, rfl, rfl, by omega, by omega, by omega, by omega, ⟨Hst.out n (by omega) (by omega) (.inr ⟨by omega, rfl⟩)⟩⟩
    case round =>
      obtain ⟨m, i, rfl, rfl, hi0, hi1, hm0, hm1, R⟩ := hrel
      by_cases c1 : i < t
      · by_cases c2 : i < 70
        · have hs := rest_step (m := m) c1 c2
          rw [R.out] at hs
          by_cases c3 : m > 524288
          · rw [if_pos (by omega)] at hs
            have HS := Aside0.mk hs
            clear hs R
            go_wp2
            go_ret
            exact ⟨by rw [HS.out]; rfl, rfl⟩
          · rw [if_neg (by omega)] at hs
            have HS := Aside0.mk hs.symm
            clear hs R
            go_wp2
            go_round
            case rel => exact ⟨2 * m, i + 1, by go_num, by go_num, by omega, by omega, by omega, by omega, HS⟩
            case measure => simp [intOf]; omega
        · have hs := rest_end (t := t) (m := m) (Or.inr c2)
          rw [R.out] at hs
          have HS := Aside0.mk hs
          clear hs R
          go_wp2
          go_ret
          exact ⟨by rw [HS.out]; rfl, rfl⟩
      · have hs := rest_end (i := i) (m := m) (Or.inl c1)
        rw [R.out] at hs
        have HS := Aside0.mk hs
        clear hs R
        go_wp2
        go_ret
        exact ⟨by rw [HS.out]; rfl, rfl⟩

set_option maxHeartbeats 4000000 in
set_option maxRecDepth 100000 in
theorem refDouble_out (n t : Int) (w : World) (hn : 1048576 < n) :
    Calls Try.prog 52 #[.int .i64 n, .int .i64 t, .int .i64 1048576] w (RIr (Dbl n t 1048576) w) := by
  have h : Dbl n t 1048576 = 1048576 := by
    unfold Dbl
    simp only []
    rw [if_neg (show ¬ n < 0 by omega), if_neg (show ¬ (1048576 : Int) < 0 by omega), if_pos (by omega)]
  rw [h]
  clear h
  go_enter Try.func52, Try.ntmps52
  go_wp2
  go_ret
  exact ⟨rfl, rfl⟩
theorem refDouble_any (n t : Int) (w : World) : Calls Try.prog 52 #[.int .i64 n, .int .i64 t, .int .i64 1048576] w (RIr (Dbl n t 1048576) w) := by
  by_cases h : n ≤ 1048576
  · exact refDouble_in n t w h
  · exact refDouble_out n t w (by omega)
end Go.Proofs.Ytedfjadgfkbfiaa.Timer
