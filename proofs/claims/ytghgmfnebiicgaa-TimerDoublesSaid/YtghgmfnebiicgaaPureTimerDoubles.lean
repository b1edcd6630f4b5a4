/- Between two tries of a timer there are twice as many ticks as between the two ahead of them. Conditions: those of the statement itself. -/
import Derived.Test.YtghgmfnebiicgaaPTimerDoublesx1
import Derived.Test.YtghgmfnebiicgaaNumAid
namespace Go.Proofs.Ytghgmfnebiicgaa.Pure
open Go.RowKit Go.Proofs.Ytghgmfnebiicgaa.PTimerDoubles Go.Proofs.YtghgmfnebiicgaaW.PrintWords Go.Proofs.YtghgmfnebiicgaaW.PrintLast Go.Proofs.YtghgmfnebiicgaaW.PrintMore Go.Proofs.Ytghgmfnebiicgaa.Aid

theorem TimerDoubles_awake : jetonlaw07_awake.f 100 = some true := by kernel_rfl

theorem TimerDoubles_loop (most : Int) (hm : most ≤ 9223372036854775807) (T : Int) (hT : T ≤ 64) (d : Nat) : ∀ (k : Nat) (n i : Int), 0 ≤ n → n ≤ most → 0 ≤ i → T - i = d → d < k →
    num_Double.l0 k n most T i = some (dbl d n most) := by
  induction d with
  | zero =>
    intro k n i h0 h1 hi hd hk
    obtain ⟨k, rfl⟩ : ∃ m, k = m + 1 := ⟨k - 1, by omega⟩
    simp only [num_Double.l0, dbl]
    rw [if_neg (by omega)]
    unfold mn; rw [if_neg (by omega)]
  | succ d ih =>
    intro k n i h0 h1 hi hd hk
    obtain ⟨k, rfl⟩ : ∃ m, k = m + 1 := ⟨k - 1, by omega⟩
    simp only [num_Double.l0, dbl]
    rw [if_pos (by omega), w64 (n := most - n) (by omega) (by omega)]
    by_cases h : 2 * n > most
    · rw [if_pos (by omega), if_pos h]
    · rw [if_neg (by omega), if_neg h, w64 (n := n + n) (by omega) (by omega), w64 (n := i + 1) (by omega) (by omega), show n + n = 2 * n by omega]
      exact ih _ _ _ (by omega) (by omega) (by omega) (by omega) (by omega)

theorem TimerDoubles_double (n times most : Int) (hn : n ≤ 9223372036854775807) (hm : most ≤ 9223372036854775807) (k : Nat) (hk : 64 < k) : num_Double.f k n times most = some (Dbl n times most) := by
  unfold num_Double.f Dbl
  simp only [show ∀ x, mx x 0 = (if x < 0 then 0 else x) from fun x => rfl]
  generalize hn' : (if n < 0 then 0 else n) = n'
  generalize hm' : (if most < 0 then 0 else most) = m'
  have a0 : 0 ≤ n' ∧ n' ≤ 9223372036854775807 := by subst hn'; split <;> omega
  have a1 : 0 ≤ m' ∧ m' ≤ 9223372036854775807 := by subst hm'; split <;> omega
  have a2 : ∃ T : Nat, mn (if times < 0 then 0 else times) 64 = T ∧ T ≤ 64 ∧ (T < 64 → (if times < 0 then 0 else times.toNat) = T) ∧ (T = 64 → 64 ≤ (if times < 0 then 0 else times.toNat)) := by
    refine ⟨(mn (if times < 0 then 0 else times) 64).toNat, ?_, ?_, ?_, ?_⟩ <;> unfold mn <;> (repeat' split) <;> omega
  obtain ⟨T, e, hT, s1, s2⟩ := a2
  rw [e]
  by_cases h : n' > m'
  · rw [if_pos h]
    obtain ⟨k, rfl⟩ : ∃ m, k = m + 1 := ⟨k - 1, by omega⟩
    simp only [num_Double.l0]
    rw [w64 (n := m' - n') (by omega) (by omega)]
    by_cases hz : (0 : Int) < T
    · rw [if_pos hz, if_pos (by omega)]
    · rw [if_neg hz]; unfold mn; rw [if_pos (by omega)]
  · rw [if_neg h, TimerDoubles_loop m' a1.2 T (by omega) T k n' 0 a0.1 (by omega) (by omega) (by omega) (by omega)]
    by_cases ht : T = 64
    · rw [dbl_stable T (if times < 0 then 0 else times.toNat) n' m' a0.1 (by omega) a1.2 (by omega) (by have := s2 ht; omega)]
    · rw [s1 (by omega)]
theorem TimerDoubles_clamp (x lo hi : Int) (h : lo ≤ hi) : ∃ r, num_Clamp.f x lo hi = some r ∧ lo ≤ r ∧ r ≤ hi ∧ (lo ≤ x → x ≤ hi → r = x) := by
  unfold num_Clamp.f mx mn
  refine ⟨_, rfl, ?_, ?_, ?_⟩ <;> (repeat' split) <;> omega

theorem TimerDoubles_total_of (a0 a1 w : Int) (t : Nat) (h0 : num_Clamp.f a0 1 64 = some w) (h1 : num_Clamp.f a1 0 8 = some (t : Int)) (b0 : 1 ≤ w) (b1 : w ≤ 64) (ht : t ≤ 8) :
    timer_Total.f a0 a1 = some (w * (2 ^ (t + 1) - 1)) := by
  unfold timer_Total.f
  rw [h0, h1, Option.bind_some, Option.bind_some]
  have hc : t = 0 ∨ t = 1 ∨ t = 2 ∨ t = 3 ∨ t = 4 ∨ t = 5 ∨ t = 6 ∨ t = 7 ∨ t = 8 := by omega
  rcases hc with rfl | rfl | rfl | rfl | rfl | rfl | rfl | rfl | rfl
  · rw [if_pos (by decide +kernel), show wrap64 (shl .i64 1 (wrap64 (((0 : Nat) : Int) + 1)) - 1) = 1 by decide +kernel, w64 (by omega) (by omega)]; rfl
  · rw [if_pos (by decide +kernel), show wrap64 (shl .i64 1 (wrap64 (((1 : Nat) : Int) + 1)) - 1) = 3 by decide +kernel, w64 (by omega) (by omega)]; rfl
  · rw [if_pos (by decide +kernel), show wrap64 (shl .i64 1 (wrap64 (((2 : Nat) : Int) + 1)) - 1) = 7 by decide +kernel, w64 (by omega) (by omega)]; rfl
  · rw [if_pos (by decide +kernel), show wrap64 (shl .i64 1 (wrap64 (((3 : Nat) : Int) + 1)) - 1) = 15 by decide +kernel, w64 (by omega) (by omega)]; rfl
  · rw [if_pos (by decide +kernel), show wrap64 (shl .i64 1 (wrap64 (((4 : Nat) : Int) + 1)) - 1) = 31 by decide +kernel, w64 (by omega) (by omega)]; rfl
  · rw [if_pos (by decide +kernel), show wrap64 (shl .i64 1 (wrap64 (((5 : Nat) : Int) + 1)) - 1) = 63 by decide +kernel, w64 (by omega) (by omega)]; rfl
  · rw [if_pos (by decide +kernel), show wrap64 (shl .i64 1 (wrap64 (((6 : Nat) : Int) + 1)) - 1) = 127 by decide +kernel, w64 (by omega) (by omega)]; rfl
  · rw [if_pos (by decide +kernel), show wrap64 (shl .i64 1 (wrap64 (((7 : Nat) : Int) + 1)) - 1) = 255 by decide +kernel, w64 (by omega) (by omega)]; rfl
  · rw [if_pos (by decide +kernel), show wrap64 (shl .i64 1 (wrap64 (((8 : Nat) : Int) + 1)) - 1) = 511 by decide +kernel, w64 (by omega) (by omega)]; rfl

theorem TimerDoubles_total (w : Int) (t : Nat) (b0 : 1 ≤ w) (b1 : w ≤ 64) (ht : t ≤ 8) : timer_Total.f w (t : Int) = some (w * (2 ^ (t + 1) - 1)) := by
  obtain ⟨r, hr, _, _, e⟩ := TimerDoubles_clamp w 1 64 (by omega)
  obtain ⟨s, hs, _, _, e'⟩ := TimerDoubles_clamp t 0 8 (by omega)
  rw [e b0 b1] at hr
  rw [e' (by omega) (by omega)] at hs
  exact TimerDoubles_total_of w t w t hr hs b0 b1 ht

theorem TimerDoubles_pow (w : Int) (t j : Nat) (b0 : 1 ≤ w) (h : j < t) : 4 * (w * 2 ^ j) ≤ w * 2 ^ (t + 1) := by
  have e : w * 2 ^ (t + 1) = w * 2 ^ j * 4 * 2 ^ (t - j - 1) := by
    rw [show t + 1 = j + 2 + (t - j - 1) by omega, Int.pow_add, Int.pow_add, show (2 : Int) ^ 2 = 4 from rfl, ← Int.mul_assoc, ← Int.mul_assoc]
  have p : (1 : Int) ≤ 2 ^ (t - j - 1) := by
    have : 0 < (2 : Int) ^ (t - j - 1) := Int.pow_pos (by omega)
    omega
  have q : 0 ≤ w * 2 ^ j := Int.mul_nonneg (by omega) (Int.le_of_lt (Int.pow_pos (by omega)))
  rw [e]
  generalize w * 2 ^ j = z at *
  have := Int.mul_le_mul_of_nonneg_left p (show 0 ≤ z * 4 by omega)
  omega

theorem TimerDoubles_pow_le (w : Int) (j : Nat) (b0 : 1 ≤ w) (b1 : w ≤ 64) (h : j ≤ 9) : 1 ≤ w * 2 ^ j ∧ w * 2 ^ j ≤ 32768 := by
  have hc : j = 0 ∨ j = 1 ∨ j = 2 ∨ j = 3 ∨ j = 4 ∨ j = 5 ∨ j = 6 ∨ j = 7 ∨ j = 8 ∨ j = 9 := by omega
  rcases hc with rfl | rfl | rfl | rfl | rfl | rfl | rfl | rfl | rfl | rfl <;> omega

theorem TimerDoubles_dbl (j : Nat) : ∀ n most : Int, 0 ≤ n → n * 2 ^ j ≤ most → dbl j n most = n * 2 ^ j := by
  induction j with
  | zero => intro n most _ _; simp [dbl]
  | succ j ih =>
    intro n most h0 h
    have e : n * 2 ^ (j + 1) = 2 * n * 2 ^ j := by rw [Int.pow_succ, Int.mul_comm (2 ^ j) 2, ← Int.mul_assoc, Int.mul_comm n 2]
    rw [e] at h ⊢
    have p : (1 : Int) ≤ 2 ^ j := by
      have : 0 < (2 : Int) ^ j := Int.pow_pos (by omega)
      omega
    have := Int.mul_le_mul_of_nonneg_left p (show 0 ≤ 2 * n by omega)
    simp only [dbl]
    rw [if_neg (by omega)]
    exact ih _ _ (by omega) h

/-- A tick at the end of a try that isn't the last one. -/
theorem TimerDoubles_again (k : Nat) (hk : 64 < k) (w : Int) (t j : Nat) (b0 : 1 ≤ w) (b1 : w ≤ 64) (h : j < t) (ht : t ≤ 8) :
    timer_Tick.f k 1 (j : Int) false w (t : Int) = some (w * 2 ^ (j + 1), ((j + 1 : Nat) : Int), false, 1) := by
  have b := TimerDoubles_pow_le w (j + 1) b0 b1 (by omega)
  unfold timer_Tick.f
  rw [if_neg (by simp), if_neg (by omega), if_pos (by omega), w64 (by omega) (by omega), TimerDoubles_double w (j + 1) 1048576 (by omega) (by omega) k hk]
  have hd : Dbl w ((j : Int) + 1) 1048576 = w * 2 ^ (j + 1) := by
    unfold Dbl
    simp only []
    rw [if_neg (show ¬ w < 0 by omega), if_neg (show ¬ (1048576 : Int) < 0 by omega), if_neg (show ¬ w > 1048576 by omega), if_neg (show ¬ ((j : Int) + 1 < 0) by omega), show ((j : Int) + 1).toNat = j + 1 by omega]
    exact TimerDoubles_dbl _ _ _ (by omega) (by omega)
  rw [hd]
  simp only [Option.bind_some]
  rw [show mx (w * 2 ^ (j + 1)) 1 = w * 2 ^ (j + 1) by unfold mx; rw [if_neg (by omega)]]
  rfl

theorem TimerDoubles_last (k : Nat) (w : Int) (t : Nat) : timer_Tick.f k 1 (t : Int) false w (t : Int) = some (0, (t : Int), true, 2) := by
  unfold timer_Tick.f
  rw [if_neg (by simp), if_neg (by omega), if_neg (by omega)]

theorem TimerDoubles_wait (k : Nat) (l w j t : Int) (h : 1 < l) (hl : l ≤ 32768) : timer_Tick.f k l j false w t = some (l - 1, j, false, 0) := by
  unfold timer_Tick.f
  rw [if_neg (by simp), if_pos (by omega), w64 (by omega) (by omega)]


theorem TimerDoubles_ticks (w : Int) (t : Nat) (b0 : 1 ≤ w) (b1 : w ≤ 64) (ht : t ≤ 8) (n : Int) (hn : n ≤ 1000000) (d : Nat) : ∀ (k j : Nat) (l i p e : Int), j ≤ t → 1 ≤ l → l ≤ p → 0 ≤ i → n - i = d → d + 70 < k →
    p = w * 2 ^ j → e = w * 2 ^ (t + 1) → n - i = l + e - 2 * p →
    jetonlaw07_TimerDoubles.l0 k w (t : Int) (p - l) p n i l (j : Int) false = some true := by
  induction d with
  | zero =>
    intro k j l i p e hj l0 l1 i0 hd hk hp he hr
    have bp := TimerDoubles_pow_le w j b0 b1 (by omega)
    exfalso
    by_cases c : j = t
    · subst c
      have : e = 2 * p := by rw [he, hp, Int.pow_succ, Int.mul_comm (2 ^ j) 2, ← Int.mul_assoc, Int.mul_comm w 2, Int.mul_assoc]
      omega
    · have := TimerDoubles_pow w t j b0 (by omega)
      omega
  | succ d ih =>
    intro k j l i p e hj l0 l1 i0 hd hk hp he hr
    have bp := TimerDoubles_pow_le w j b0 b1 (by omega)
    obtain ⟨k, rfl⟩ : ∃ m, k = m + 1 := ⟨k - 1, by omega⟩
    simp only [jetonlaw07_TimerDoubles.l0]
    rw [if_pos (by omega)]
    by_cases c : 1 < l
    · rw [TimerDoubles_wait k l w j t c (by omega)]
      simp only [Option.bind_some]
      rw [if_pos trivial, w64 (n := p - l + 1) (by omega) (by omega), w64 (n := i + 1) (by omega) (by omega), show p - l + 1 = p - (l - 1) by omega]
      exact ih k j (l - 1) (i + 1) p e hj (by omega) (by omega) (by omega) (by omega) (by omega) hp he (by omega)
    · obtain rfl : l = 1 := by omega
      by_cases cj : j = t
      · subst cj
        have e2 : e = 2 * p := by rw [he, hp, Int.pow_succ, Int.mul_comm (2 ^ j) 2, ← Int.mul_assoc, Int.mul_comm w 2, Int.mul_assoc]
        rw [TimerDoubles_last k w j]
        simp only [Option.bind_some]
        rw [if_neg (by omega), w64 (n := p - 1 + 1) (by omega) (by omega), if_pos (by omega), w64 (n := i + 1) (by omega) (by omega)]
        obtain ⟨k, rfl⟩ : ∃ m, k = m + 1 := ⟨k - 1, by omega⟩
        simp only [jetonlaw07_TimerDoubles.l0]
        rw [if_neg (by omega)]
      · have e3 : 2 * p = w * 2 ^ (j + 1) := by rw [hp, Int.pow_succ, Int.mul_comm (2 ^ j) 2, ← Int.mul_assoc, ← Int.mul_assoc, Int.mul_comm w 2]
        rw [TimerDoubles_again k (by omega) w t j b0 b1 (by omega) ht]
        simp only [Option.bind_some]
        rw [if_neg (by omega), w64 (n := p - 1 + 1) (by omega) (by omega), if_pos (by omega), w64 (n := i + 1) (by omega) (by omega), w64 (n := 2 * p) (by omega) (by omega), ← e3]
        have := ih k (j + 1) (2 * p) (i + 1) (2 * p) e (by omega) (by omega) (by omega) (by omega) (by omega) (by omega) e3 he (by omega)
        rw [show 2 * p - 2 * p = 0 by omega] at this
        exact this

theorem TimerDoubles : jetonlaw07_TimerDoubles.Pure := by
  intro a0 a1 w0 w1
  refine ⟨40000, ?_⟩
  have ha : jetonlaw07_awake.f 40000 = some true := at_rounds jetonlaw07_awake.mono (by omega) TimerDoubles_awake
  have ha2 : jetonlaw07_awake.f 39999 = some true := at_rounds jetonlaw07_awake.mono (by omega) TimerDoubles_awake
  have hj : ∀ b, jetonlaw07_TimerDoubles.j0 40000 a0 a1 b = if b = true then ((jetonlaw07_awake.f 39999).bind fun t121 => (some t121)) else ((timer_Start.f a0).bind fun bt122 => ((timer_Total.f a0 a1).bind fun t126 => (jetonlaw07_TimerDoubles.l0 39999 a0 a1 0 a0 t126 0 bt122.1 bt122.2.1 bt122.2.2))) := by
    intro b; rw [show (40000 : Nat) = 39999 + 1 from rfl]; rw [jetonlaw07_TimerDoubles.j0]
  generalize hk : (40000 : Nat) = K at *
  generalize hk2 : (39999 : Nat) = K' at *
  have h1 : jetonlaw07_TimerDoubles.j0 K a0 a1 true = some true := by
    rw [hj, if_pos rfl, ha2]; rfl
  unfold jetonlaw07_TimerDoubles.f
  rw [ha]
  simp only [Option.bind_some, if_true]
  by_cases c0 : a0 < 1
  · rw [if_pos c0, h1]
  by_cases c1 : a0 > 64
  · rw [if_neg c0, if_pos c1, h1]
  by_cases c2 : a1 < 1
  · rw [if_neg c0, if_neg c1, if_pos c2, h1]
  by_cases c3 : a1 > 8
  · rw [if_neg c0, if_neg c1, if_neg c2, decide_eq_true c3, h1]
  rw [if_neg c0, if_neg c1, if_neg c2, decide_eq_false c3, hj, if_neg (by simp)]
  obtain ⟨t, rfl⟩ : ∃ t : Nat, a1 = t := ⟨a1.toNat, by omega⟩
  rw [TimerDoubles_total a0 t (by omega) (by omega) (by omega), timer_Start.f, show mx a0 1 = a0 by unfold mx; rw [if_neg (by omega)]]
  simp only [Option.bind_some]
  have bp := TimerDoubles_pow_le a0 (t + 1) (by omega) (by omega) (by omega)
  have e : a0 * (2 ^ (t + 1) - 1) = a0 * 2 ^ (t + 1) - a0 := by rw [Int.mul_sub, Int.mul_one]
  rw [e]
  have h := TimerDoubles_ticks a0 t (by omega) (by omega) (by omega) (a0 * 2 ^ (t + 1) - a0) (by omega) (a0 * 2 ^ (t + 1) - a0).toNat K' 0 a0 0 a0 (a0 * 2 ^ (t + 1)) (by omega) (by omega) (by omega) (by omega)
    (by
      have := TimerDoubles_pow_le a0 t (by omega) (by omega) (by omega)
      have e2 : a0 * 2 ^ (t + 1) = 2 * (a0 * 2 ^ t) := by rw [Int.pow_succ, Int.mul_comm (2 ^ t) 2, ← Int.mul_assoc, Int.mul_comm a0 2, Int.mul_assoc]
      have : 1 * a0 ≤ a0 * 2 ^ t := by
        have p : (1 : Int) ≤ 2 ^ t := by
          have : 0 < (2 : Int) ^ t := Int.pow_pos (by omega)
          omega
        have := Int.mul_le_mul_of_nonneg_left p (show 0 ≤ a0 by omega)
        omega
      omega) (by omega) (by simp) rfl (by omega)
  rw [show a0 - a0 = 0 by omega] at h
  exact h

end Go.Proofs.Ytghgmfnebiicgaa.Pure
