/- With longer waits, and with more tries, timer.Total tells more ticks; with one try more twice as many, and one wait. Conditions: those of the statement itself. -/
import Derived.Test.YtghgmfnebiicgaaPTimerGrowsx1
import Derived.Test.YtghgmfnebiicgaaNumAid
namespace Go.Proofs.Ytghgmfnebiicgaa.Pure
open Go.RowKit Go.Proofs.Ytghgmfnebiicgaa.PTimerGrows Go.Proofs.YtghgmfnebiicgaaW.PrintWords Go.Proofs.YtghgmfnebiicgaaW.PrintLast Go.Proofs.YtghgmfnebiicgaaW.PrintMore Go.Proofs.Ytghgmfnebiicgaa.Aid

theorem TimerGrows_awake : jetonlaw07_awake.f 100 = some true := by kernel_rfl

theorem TimerGrows_clamp (x lo hi : Int) (h : lo ≤ hi) : ∃ r, num_Clamp.f x lo hi = some r ∧ lo ≤ r ∧ r ≤ hi ∧ (lo ≤ x → x ≤ hi → r = x) := by
  unfold num_Clamp.f mx mn
  refine ⟨_, rfl, ?_, ?_, ?_⟩ <;> (repeat' split) <;> omega

theorem TimerGrows_total_of (a0 a1 w : Int) (t : Nat) (h0 : num_Clamp.f a0 1 64 = some w) (h1 : num_Clamp.f a1 0 8 = some (t : Int)) (b0 : 1 ≤ w) (b1 : w ≤ 64) (ht : t ≤ 8) :
    timer_Total.f a0 a1 = some (w * (2 ^ (t + 1) - 1)) := by
  unfold timer_Total.f
  rw [h0, h1, Option.bind_some, Option.bind_some]
  have hc : t = 0 ∨ t = 1 ∨ t = 2 ∨ t = 3 ∨ t = 4 ∨ t = 5 ∨ t = 6 ∨ t = 7 ∨ t = 8 := by omega
  rcases hc with rfl | rfl | rfl | rfl | rfl | rfl | rfl | rfl | rfl
  · rw [if_pos (by decide +kernel), show wrap64 (shl .i64 1 (wrap64 (((0 : Nat) : Int) + 1)) - 1) = 1 by decide +kernel, w64 (by omega) (by omega)]; rfl
  · rw [if_pos (by decide +kernel), show wrap64 (shl .i64 1 (wrap64 (((1 : Nat) : Int) + 1)) - 1) = 3 by decide +kernel, w64 (by omega) (by omega)]; rfl
  · rw [if_pos (by decide +kernel), show wrap64 (shl .i64 1 (wrap64 (((2 : Nat) : Int) + 1)) - 1) = 7 by decide +kernel, w64 (by omega) (by omega)]; rfl
  · rw [if_pos (by decide +kernel), show wrap64 (shl .i64 1 (wrap64 (((3 : Nat) : Int) + 1)) - 1) = 15 by decide +kernel, w64 (by omega) (by omega)]; rfl
  · rw [if_pos (by decide +kernel), show wrap64 (shl .i64 1 (wrap64 (((4 : Nat) : Int) + 1)) - 1) = 31 by decide +kernel, w64 (by omega) (by omega)]; rfl
  · rw [if_pos (by decide +kernel), show wrap64 (shl .i64 1 (wrap64 (((5 : Nat) : Int) + 1)) - 1) = 63 by decide +kernel, w64 (by omega) (by omega)]; rfl
  · rw [if_pos (by decide +kernel), show wrap64 (shl .i64 1 (wrap64 (((6 : Nat) : Int) + 1)) - 1) = 127 by decide +kernel, w64 (by omega) (by omega)]; rfl
  · rw [if_pos (by decide +kernel), show wrap64 (shl .i64 1 (wrap64 (((7 : Nat) : Int) + 1)) - 1) = 255 by decide +kernel, w64 (by omega) (by omega)]; rfl
  · rw [if_pos (by decide +kernel), show wrap64 (shl .i64 1 (wrap64 (((8 : Nat) : Int) + 1)) - 1) = 511 by decide +kernel, w64 (by omega) (by omega)]; rfl

theorem TimerGrows_total (w : Int) (t : Nat) (b0 : 1 ≤ w) (b1 : w ≤ 64) (ht : t ≤ 8) : timer_Total.f w (t : Int) = some (w * (2 ^ (t + 1) - 1)) := by
  obtain ⟨r, hr, _, _, e⟩ := TimerGrows_clamp w 1 64 (by omega)
  obtain ⟨s, hs, _, _, e'⟩ := TimerGrows_clamp t 0 8 (by omega)
  rw [e b0 b1] at hr
  rw [e' (by omega) (by omega)] at hs
  exact TimerGrows_total_of w t w t hr hs b0 b1 ht


theorem TimerGrows : jetonlaw07_TimerGrows.Pure := by
  intro a0 a1 w0 w1
  have bw := wf64 w0
  refine ⟨101, ?_⟩
  have ha : jetonlaw07_awake.f 101 = some true := at_rounds jetonlaw07_awake.mono (by omega) TimerGrows_awake
  have h1 : jetonlaw07_TimerGrows.j0 101 a0 a1 true = some true := by
    simp only [jetonlaw07_TimerGrows.j0]
    rw [TimerGrows_awake]; rfl
  unfold jetonlaw07_TimerGrows.f
  rw [ha]
  simp only [Option.bind_some, if_true]
  by_cases c0 : a0 < 1
  · rw [if_pos c0, h1]
  by_cases c1 : a0 > 63
  · rw [if_neg c0, if_pos c1, h1]
  by_cases c2 : a1 < 0
  · rw [if_neg c0, if_neg c1, if_pos c2, h1]
  by_cases c3 : a1 > 7
  · rw [if_neg c0, if_neg c1, if_neg c2, decide_eq_true c3, h1]
  rw [if_neg c0, if_neg c1, if_neg c2, decide_eq_false c3]
  simp only [jetonlaw07_TimerGrows.j0]
  obtain ⟨t, rfl⟩ : ∃ t : Nat, a1 = t := ⟨a1.toNat, by omega⟩
  rw [if_neg (by simp), TimerGrows_total a0 t (by omega) (by omega) (by omega), w64 (n := a0 + 1) (by omega) (by omega), TimerGrows_total (a0 + 1) t (by omega) (by omega) (by omega), w64 (n := (t : Int) + 1) (by omega) (by omega),
    show (t : Int) + 1 = ((t + 1 : Nat) : Int) by omega, TimerGrows_total a0 (t + 1) (by omega) (by omega) (by omega)]
  simp only [Option.bind_some]
  have hc : t = 0 ∨ t = 1 ∨ t = 2 ∨ t = 3 ∨ t = 4 ∨ t = 5 ∨ t = 6 ∨ t = 7 := by omega
  have fin : ∀ x y z : Int, y > x → z = 2 * x + a0 → 0 ≤ x → x ≤ 100000 → (if y > x then some (z == wrap64 (wrap64 (2 * x) + a0)) else some false) = some true := by
    intro x y z h1 h2 h3 h4
    rw [if_pos h1, w64 (n := 2 * x) (by omega) (by omega), w64 (by omega) (by omega), h2]; simp
  rcases hc with rfl | rfl | rfl | rfl | rfl | rfl | rfl | rfl <;> exact fin _ _ _ (by omega) (by omega) (by omega) (by omega)

end Go.Proofs.Ytghgmfnebiicgaa.Pure
