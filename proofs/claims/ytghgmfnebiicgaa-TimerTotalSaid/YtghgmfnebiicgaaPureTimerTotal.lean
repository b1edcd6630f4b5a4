/- Of any wait and any tries timer.Total is the reference, and the timer of a first try is over with just that tick, tried again as often as is said ahead of it. Conditions: those of the statement itself. -/
import Derived.Test.YtghgmfnebiicgaaPTimerTotalx2
import Derived.Test.YtghgmfnebiicgaaNumAid
namespace Go.Proofs.Ytghgmfnebiicgaa.Pure
open Go.RowKit Go.Proofs.Ytghgmfnebiicgaa.PTimerTotal Go.Proofs.YtghgmfnebiicgaaW.PrintWords Go.Proofs.YtghgmfnebiicgaaW.PrintLast Go.Proofs.YtghgmfnebiicgaaW.PrintMore Go.Proofs.Ytghgmfnebiicgaa.Aid

theorem TimerTotal_awake : jetonlaw07_awake.f 100 = some true := by kernel_rfl

theorem TimerTotal_loop (most : Int) (hm : most ≤ 9223372036854775807) (T : Int) (hT : T ≤ 64) (d : Nat) : ∀ (k : Nat) (n i : Int), 0 ≤ n → n ≤ most → 0 ≤ i → T - i = d → d < k →
    num_Double.l0 k n most T i = some (dbl d n most) := by
  induction d with
  | zero =>
    intro k n i h0 h1 hi hd hk
    obtain ⟨k, rfl⟩ : ∃ m, k = m + 1 := ⟨k - 1, by omega⟩
    simp only [num_Double.l0, dbl]
    rw [if_neg (by omega)]
    unfold mn; rw [if_neg (by omega)]
  | succ d ih =>
    intro k n i h0 h1 hi hd hk
    obtain ⟨k, rfl⟩ : ∃ m, k = m + 1 := ⟨k - 1, by omega⟩
    simp only [num_Double.l0, dbl]
    rw [if_pos (by omega), w64 (n := most - n) (by omega) (by omega)]
    by_cases h : 2 * n > most
    · rw [if_pos (by omega), if_pos h]
    · rw [if_neg (by omega), if_neg h, w64 (n := n + n) (by omega) (by omega), w64 (n := i + 1) (by omega) (by omega), show n + n = 2 * n by omega]
      exact ih _ _ _ (by omega) (by omega) (by omega) (by omega) (by omega)

theorem TimerTotal_double (n times most : Int) (hn : n ≤ 9223372036854775807) (hm : most ≤ 9223372036854775807) (k : Nat) (hk : 64 < k) : num_Double.f k n times most = some (Dbl n times most) := by
  unfold num_Double.f Dbl
  simp only [show ∀ x, mx x 0 = (if x < 0 then 0 else x) from fun x => rfl]
  generalize hn' : (if n < 0 then 0 else n) = n'
  generalize hm' : (if most < 0 then 0 else most) = m'
  have a0 : 0 ≤ n' ∧ n' ≤ 9223372036854775807 := by subst hn'; split <;> omega
  have a1 : 0 ≤ m' ∧ m' ≤ 9223372036854775807 := by subst hm'; split <;> omega
  have a2 : ∃ T : Nat, mn (if times < 0 then 0 else times) 64 = T ∧ T ≤ 64 ∧ (T < 64 → (if times < 0 then 0 else times.toNat) = T) ∧ (T = 64 → 64 ≤ (if times < 0 then 0 else times.toNat)) := by
    refine ⟨(mn (if times < 0 then 0 else times) 64).toNat, ?_, ?_, ?_, ?_⟩ <;> unfold mn <;> (repeat' split) <;> omega
  obtain ⟨T, e, hT, s1, s2⟩ := a2
  rw [e]
  by_cases h : n' > m'
  · rw [if_pos h]
    obtain ⟨k, rfl⟩ : ∃ m, k = m + 1 := ⟨k - 1, by omega⟩
    simp only [num_Double.l0]
    rw [w64 (n := m' - n') (by omega) (by omega)]
    by_cases hz : (0 : Int) < T
    · rw [if_pos hz, if_pos (by omega)]
    · rw [if_neg hz]; unfold mn; rw [if_pos (by omega)]
  · rw [if_neg h, TimerTotal_loop m' a1.2 T (by omega) T k n' 0 a0.1 (by omega) (by omega) (by omega) (by omega)]
    by_cases ht : T = 64
    · rw [dbl_stable T (if times < 0 then 0 else times.toNat) n' m' a0.1 (by omega) a1.2 (by omega) (by have := s2 ht; omega)]
    · rw [s1 (by omega)]
theorem TimerTotal_clamp (x lo hi : Int) (h : lo ≤ hi) : ∃ r, num_Clamp.f x lo hi = some r ∧ lo ≤ r ∧ r ≤ hi ∧ (lo ≤ x → x ≤ hi → r = x) := by
  unfold num_Clamp.f mx mn
  refine ⟨_, rfl, ?_, ?_, ?_⟩ <;> (repeat' split) <;> omega

theorem TimerTotal_total_of (a0 a1 w : Int) (t : Nat) (h0 : num_Clamp.f a0 1 64 = some w) (h1 : num_Clamp.f a1 0 8 = some (t : Int)) (b0 : 1 ≤ w) (b1 : w ≤ 64) (ht : t ≤ 8) :
    timer_Total.f a0 a1 = some (w * (2 ^ (t + 1) - 1)) := by
  unfold timer_Total.f
  rw [h0, h1, Option.bind_some, Option.bind_some]
  have hc : t = 0 ∨ t = 1 ∨ t = 2 ∨ t = 3 ∨ t = 4 ∨ t = 5 ∨ t = 6 ∨ t = 7 ∨ t = 8 := by omega
  rcases hc with rfl | rfl | rfl | rfl | rfl | rfl | rfl | rfl | rfl
  · rw [if_pos (by decide +kernel), show wrap64 (shl .i64 1 (wrap64 (((0 : Nat) : Int) + 1)) - 1) = 1 by decide +kernel, w64 (by omega) (by omega)]; rfl
  · rw [if_pos (by decide +kernel), show wrap64 (shl .i64 1 (wrap64 (((1 : Nat) : Int) + 1)) - 1) = 3 by decide +kernel, w64 (by omega) (by omega)]; rfl
  · rw [if_pos (by decide +kernel), show wrap64 (shl .i64 1 (wrap64 (((2 : Nat) : Int) + 1)) - 1) = 7 by decide +kernel, w64 (by omega) (by omega)]; rfl
  · rw [if_pos (by decide +kernel), show wrap64 (shl .i64 1 (wrap64 (((3 : Nat) : Int) + 1)) - 1) = 15 by decide +kernel, w64 (by omega) (by omega)]; rfl
  · rw [if_pos (by decide +kernel), show wrap64 (shl .i64 1 (wrap64 (((4 : Nat) : Int) + 1)) - 1) = 31 by decide +kernel, w64 (by omega) (by omega)]; rfl
  · rw [if_pos (by decide +kernel), show wrap64 (shl .i64 1 (wrap64 (((5 : Nat) : Int) + 1)) - 1) = 63 by decide +kernel, w64 (by omega) (by omega)]; rfl
  · rw [if_pos (by decide +kernel), show wrap64 (shl .i64 1 (wrap64 (((6 : Nat) : Int) + 1)) - 1) = 127 by decide +kernel, w64 (by omega) (by omega)]; rfl
  · rw [if_pos (by decide +kernel), show wrap64 (shl .i64 1 (wrap64 (((7 : Nat) : Int) + 1)) - 1) = 255 by decide +kernel, w64 (by omega) (by omega)]; rfl
  · rw [if_pos (by decide +kernel), show wrap64 (shl .i64 1 (wrap64 (((8 : Nat) : Int) + 1)) - 1) = 511 by decide +kernel, w64 (by omega) (by omega)]; rfl

theorem TimerTotal_total (w : Int) (t : Nat) (b0 : 1 ≤ w) (b1 : w ≤ 64) (ht : t ≤ 8) : timer_Total.f w (t : Int) = some (w * (2 ^ (t + 1) - 1)) := by
  obtain ⟨r, hr, _, _, e⟩ := TimerTotal_clamp w 1 64 (by omega)
  obtain ⟨s, hs, _, _, e'⟩ := TimerTotal_clamp t 0 8 (by omega)
  rw [e b0 b1] at hr
  rw [e' (by omega) (by omega)] at hs
  exact TimerTotal_total_of w t w t hr hs b0 b1 ht

theorem TimerTotal_pow (w : Int) (t j : Nat) (b0 : 1 ≤ w) (h : j < t) : 4 * (w * 2 ^ j) ≤ w * 2 ^ (t + 1) := by
  have e : w * 2 ^ (t + 1) = w * 2 ^ j * 4 * 2 ^ (t - j - 1) := by
    rw [show t + 1 = j + 2 + (t - j - 1) by omega, Int.pow_add, Int.pow_add, show (2 : Int) ^ 2 = 4 from rfl, ← Int.mul_assoc, ← Int.mul_assoc]
  have p : (1 : Int) ≤ 2 ^ (t - j - 1) := by
    have : 0 < (2 : Int) ^ (t - j - 1) := Int.pow_pos (by omega)
    omega
  have q : 0 ≤ w * 2 ^ j := Int.mul_nonneg (by omega) (Int.le_of_lt (Int.pow_pos (by omega)))
  rw [e]
  generalize w * 2 ^ j = z at *
  have := Int.mul_le_mul_of_nonneg_left p (show 0 ≤ z * 4 by omega)
  omega

theorem TimerTotal_pow_le (w : Int) (j : Nat) (b0 : 1 ≤ w) (b1 : w ≤ 64) (h : j ≤ 9) : 1 ≤ w * 2 ^ j ∧ w * 2 ^ j ≤ 32768 := by
  have hc : j = 0 ∨ j = 1 ∨ j = 2 ∨ j = 3 ∨ j = 4 ∨ j = 5 ∨ j = 6 ∨ j = 7 ∨ j = 8 ∨ j = 9 := by omega
  rcases hc with rfl | rfl | rfl | rfl | rfl | rfl | rfl | rfl | rfl | rfl <;> omega

theorem TimerTotal_dbl (j : Nat) : ∀ n most : Int, 0 ≤ n → n * 2 ^ j ≤ most → dbl j n most = n * 2 ^ j := by
  induction j with
  | zero => intro n most _ _; simp [dbl]
  | succ j ih =>
    intro n most h0 h
    have e : n * 2 ^ (j + 1) = 2 * n * 2 ^ j := by rw [Int.pow_succ, Int.mul_comm (2 ^ j) 2, ← Int.mul_assoc, Int.mul_comm n 2]
    rw [e] at h ⊢
    have p : (1 : Int) ≤ 2 ^ j := by
      have : 0 < (2 : Int) ^ j := Int.pow_pos (by omega)
      omega
    have := Int.mul_le_mul_of_nonneg_left p (show 0 ≤ 2 * n by omega)
    simp only [dbl]
    rw [if_neg (by omega)]
    exact ih _ _ (by omega) h

/-- A tick at the end of a try that isn't the last one. -/
theorem TimerTotal_again (k : Nat) (hk : 64 < k) (w : Int) (t j : Nat) (b0 : 1 ≤ w) (b1 : w ≤ 64) (h : j < t) (ht : t ≤ 8) :
    timer_Tick.f k 1 (j : Int) false w (t : Int) = some (w * 2 ^ (j + 1), ((j + 1 : Nat) : Int), false, 1) := by
  have b := TimerTotal_pow_le w (j + 1) b0 b1 (by omega)
  unfold timer_Tick.f
  rw [if_neg (by simp), if_neg (by omega), if_pos (by omega), w64 (by omega) (by omega), TimerTotal_double w (j + 1) 1048576 (by omega) (by omega) k hk]
  have hd : Dbl w ((j : Int) + 1) 1048576 = w * 2 ^ (j + 1) := by
    unfold Dbl
    simp only []
    rw [if_neg (show ¬ w < 0 by omega), if_neg (show ¬ (1048576 : Int) < 0 by omega), if_neg (show ¬ w > 1048576 by omega), if_neg (show ¬ ((j : Int) + 1 < 0) by omega), show ((j : Int) + 1).toNat = j + 1 by omega]
    exact TimerTotal_dbl _ _ _ (by omega) (by omega)
  rw [hd]
  simp only [Option.bind_some]
  rw [show mx (w * 2 ^ (j + 1)) 1 = w * 2 ^ (j + 1) by unfold mx; rw [if_neg (by omega)]]
  rfl

theorem TimerTotal_last (k : Nat) (w : Int) (t : Nat) : timer_Tick.f k 1 (t : Int) false w (t : Int) = some (0, (t : Int), true, 2) := by
  unfold timer_Tick.f
  rw [if_neg (by simp), if_neg (by omega), if_neg (by omega)]

theorem TimerTotal_wait (k : Nat) (l w j t : Int) (h : 1 < l) (hl : l ≤ 32768) : timer_Tick.f k l j false w t = some (l - 1, j, false, 0) := by
  unfold timer_Tick.f
  rw [if_neg (by simp), if_pos (by omega), w64 (by omega) (by omega)]


theorem TimerTotal_refclamp (k : Nat) (hk : 1 ≤ k) (x lo hi : Int) (h : lo ≤ hi) : jetonref01_Clamp.f k x lo hi = num_Clamp.f x lo hi := by
  obtain ⟨k, rfl⟩ : ∃ m, k = m + 1 := ⟨k - 1, by omega⟩
  simp only [jetonref01_Clamp.f, jetonref01_Clamp.j0, num_Clamp.f, mx, mn]
  repeat' split
  all_goals first | rfl | (simp_all <;> omega)

theorem TimerTotal_refloop (t : Nat) (ht : t ≤ 8) (d : Nat) : ∀ (k : Nat) (w n i : Int), 0 ≤ i → (t : Int) + 1 - i = d → d < k → 0 ≤ w → w * 2 ^ d ≤ 32768 → 0 ≤ n → n ≤ 1000000 - d * 32768 →
    jetonref07_Total.l0 k w (t : Int) n i = some (n + w * (2 ^ d - 1)) := by
  induction d with
  | zero =>
    intro k w n i h0 h1 hk hw hb hn hm
    obtain ⟨k, rfl⟩ : ∃ m, k = m + 1 := ⟨k - 1, by omega⟩
    simp only [jetonref07_Total.l0]
    rw [if_neg (by omega)]; simp
  | succ d ih =>
    intro k w n i h0 h1 hk hw hb hn hm
    obtain ⟨k, rfl⟩ : ∃ m, k = m + 1 := ⟨k - 1, by omega⟩
    have p : (1 : Int) ≤ 2 ^ d := by
      have : 0 < (2 : Int) ^ d := Int.pow_pos (by omega)
      omega
    have e : w * 2 ^ (d + 1) = 2 * w * 2 ^ d := by rw [Int.pow_succ, Int.mul_comm (2 ^ d) 2, ← Int.mul_assoc, Int.mul_comm w 2]
    have q := Int.mul_le_mul_of_nonneg_left p (show 0 ≤ 2 * w by omega)
    rw [Int.mul_one] at q
    simp only [jetonref07_Total.l0]
    rw [if_pos (by omega), w64 (n := 2 * w) (by omega) (by omega), w64 (n := n + w) (by omega) (by omega), w64 (n := i + 1) (by omega) (by omega)]
    rw [ih k (2 * w) (n + w) (i + 1) (by omega) (by omega) (by omega) (by omega) (by omega) (by omega) (by omega)]
    rw [Int.mul_sub, Int.mul_sub, e, Int.mul_one, Int.mul_one]
    congr 1; omega

theorem TimerTotal_ref (k : Nat) (hk : 20 ≤ k) (a0 a1 : Int) : jetonref07_Total.f k a0 a1 = timer_Total.f a0 a1 := by
  obtain ⟨w, hw, b0, b1, _⟩ := TimerTotal_clamp a0 1 64 (by omega)
  obtain ⟨t, ht, c0, c1, _⟩ := TimerTotal_clamp a1 0 8 (by omega)
  obtain ⟨t, rfl⟩ : ∃ s : Nat, t = s := ⟨t.toNat, by omega⟩
  rw [TimerTotal_total_of a0 a1 w t hw ht b0 b1 (by omega)]
  unfold jetonref07_Total.f
  rw [TimerTotal_refclamp k (by omega) a0 1 64 (by omega), TimerTotal_refclamp k (by omega) a1 0 8 (by omega), hw, ht]
  simp only [Option.bind_some]
  have b := TimerTotal_pow_le w (t + 1) b0 b1 (by omega)
  rw [TimerTotal_refloop t (by omega) (t + 1) k w 0 0 (by omega) (by omega) (by omega) (by omega) b.2 (by omega) (by omega), Int.zero_add]

theorem TimerTotal_ticks (w : Int) (t : Nat) (b0 : 1 ≤ w) (b1 : w ≤ 64) (ht : t ≤ 8) (n : Int) (hn : n ≤ 1000000) (d : Nat) : ∀ (k j : Nat) (l i p e : Int), j ≤ t → 1 ≤ l → l ≤ p → 0 ≤ i → n - i = d → d + 70 < k →
    p = w * 2 ^ j → e = w * 2 ^ (t + 1) → n - i = l + e - 2 * p →
    jetonlaw07_TimerTotal.l0 k w (t : Int) n (j : Int) n i l (j : Int) false = some true := by
  induction d with
  | zero =>
    intro k j l i p e hj l0 l1 i0 hd hk hp he hr
    have bp := TimerTotal_pow_le w j b0 b1 (by omega)
    exfalso
    by_cases c : j = t
    · subst c
      have : e = 2 * p := by rw [he, hp, Int.pow_succ, Int.mul_comm (2 ^ j) 2, ← Int.mul_assoc, Int.mul_comm w 2, Int.mul_assoc]
      omega
    · have := TimerTotal_pow w t j b0 (by omega)
      omega
  | succ d ih =>
    intro k j l i p e hj l0 l1 i0 hd hk hp he hr
    have bp := TimerTotal_pow_le w j b0 b1 (by omega)
    obtain ⟨k, rfl⟩ : ∃ m, k = m + 1 := ⟨k - 1, by omega⟩
    have elast : j = t → e = 2 * p := fun c => by subst c; rw [he, hp, Int.pow_succ, Int.mul_comm (2 ^ j) 2, ← Int.mul_assoc, Int.mul_comm w 2, Int.mul_assoc]
    have efirst : j < t → 4 * p ≤ e := fun c => by have := TimerTotal_pow w t j b0 c; omega
    simp only [jetonlaw07_TimerTotal.l0]
    rw [if_pos (by omega), w64 (n := n - 1) (by omega) (by omega), w64 (n := i + 1) (by omega) (by omega)]
    by_cases c : 1 < l
    · have hne : (i == n - 1) = false := beq_eq_false_iff_ne.2 (by
        by_cases cj : j = t
        · have := elast cj; omega
        · have := efirst (by omega); omega)
      rw [TimerTotal_wait k l w j t c (by omega), hne]
      simp only [Option.bind_some]
      rw [if_neg (by omega), if_neg (by decide), if_neg (by decide)]
      exact ih k j (l - 1) (i + 1) p e hj (by omega) (by omega) (by omega) (by omega) (by omega) hp he (by omega)
    · obtain rfl : l = 1 := by omega
      by_cases cj : j = t
      · have e2 := elast cj
        subst cj
        have heq : (i == n - 1) = true := beq_iff_eq.2 (by omega)
        rw [TimerTotal_last k w j, heq]
        simp only [Option.bind_some]
        rw [if_neg (by omega), if_neg (by decide), if_neg (by decide)]
        obtain ⟨k, rfl⟩ : ∃ m, k = m + 1 := ⟨k - 1, by omega⟩
        simp only [jetonlaw07_TimerTotal.l0]
        rw [if_neg (by omega)]; simp
      · have e3 : 2 * p = w * 2 ^ (j + 1) := by rw [hp, Int.pow_succ, Int.mul_comm (2 ^ j) 2, ← Int.mul_assoc, ← Int.mul_assoc, Int.mul_comm w 2]
        have e4 := efirst (by omega)
        have hne : (i == n - 1) = false := beq_eq_false_iff_ne.2 (by omega)
        rw [TimerTotal_again k (by omega) w t j b0 b1 (by omega) ht, hne]
        simp only [Option.bind_some]
        rw [if_pos trivial, if_neg (by decide), if_neg (by decide), w64 (n := (j : Int) + 1) (by omega) (by omega), ← e3, show (j : Int) + 1 = ((j + 1 : Nat) : Int) by omega]
        exact ih k (j + 1) (2 * p) (i + 1) (2 * p) e (by omega) (by omega) (by omega) (by omega) (by omega) (by omega) e3 he (by omega)

theorem TimerTotal : jetonlaw07_TimerTotal.Pure := by
  intro a0 a1 w0 w1
  refine ⟨40000, ?_⟩
  have ha : jetonlaw07_awake.f 40000 = some true := at_rounds jetonlaw07_awake.mono (by omega) TimerTotal_awake
  have ha2 : jetonlaw07_awake.f 39999 = some true := at_rounds jetonlaw07_awake.mono (by omega) TimerTotal_awake
  have hj : ∀ n b, jetonlaw07_TimerTotal.j0 40000 a0 a1 n b = if b = true then ((jetonlaw07_awake.f 39999).bind fun t125 => (if t125 = true then ((jetonref07_Total.f 39999 a0 a1).bind fun t126 => (some (n == t126))) else (some false))) else ((timer_Start.f a0).bind fun bt127 => (jetonlaw07_TimerTotal.l0 39999 a0 a1 n 0 n 0 bt127.1 bt127.2.1 bt127.2.2)) := by
    intro n b; rw [show (40000 : Nat) = 39999 + 1 from rfl]; rw [jetonlaw07_TimerTotal.j0]
  have hr : jetonref07_Total.f 40000 a0 a1 = timer_Total.f a0 a1 := TimerTotal_ref _ (by omega) a0 a1
  have hr2 : jetonref07_Total.f 39999 a0 a1 = timer_Total.f a0 a1 := TimerTotal_ref _ (by omega) a0 a1
  have hl : ∀ t : Nat, 1 ≤ a0 → a0 ≤ 64 → t ≤ 8 → jetonlaw07_TimerTotal.l0 39999 a0 (t : Int) (a0 * 2 ^ (t + 1) - a0) 0 (a0 * 2 ^ (t + 1) - a0) 0 a0 0 false = some true := by
    intro t h0 h1 h2
    have bp := TimerTotal_pow_le a0 (t + 1) (by omega) (by omega) (by omega)
    refine TimerTotal_ticks a0 t (by omega) (by omega) (by omega) (a0 * 2 ^ (t + 1) - a0) (by omega) (a0 * 2 ^ (t + 1) - a0).toNat 39999 0 a0 0 a0 (a0 * 2 ^ (t + 1)) (by omega) (by omega) (by omega) (by omega) ?_ (by omega) (by simp) rfl (by omega)
    have e2 : a0 * 2 ^ (t + 1) = 2 * (a0 * 2 ^ t) := by rw [Int.pow_succ, Int.mul_comm (2 ^ t) 2, ← Int.mul_assoc, Int.mul_comm a0 2, Int.mul_assoc]
    have : 1 * a0 ≤ a0 * 2 ^ t := by
      have p : (1 : Int) ≤ 2 ^ t := by
        have : 0 < (2 : Int) ^ t := Int.pow_pos (by omega)
        omega
      have := Int.mul_le_mul_of_nonneg_left p (show 0 ≤ a0 by omega)
      omega
    omega
  generalize hk : (40000 : Nat) = K at *
  generalize hk2 : (39999 : Nat) = K' at *
  obtain ⟨w, hw, b0, b1, ew⟩ := TimerTotal_clamp a0 1 64 (by omega)
  obtain ⟨t, ht, c0, c1, et⟩ := TimerTotal_clamp a1 0 8 (by omega)
  obtain ⟨t, rfl⟩ : ∃ s : Nat, t = s := ⟨t.toNat, by omega⟩
  have hT := TimerTotal_total_of a0 a1 w t hw ht b0 b1 (by omega)
  have h1 : jetonlaw07_TimerTotal.j0 K a0 a1 (w * (2 ^ (t + 1) - 1)) true = some true := by
    rw [hj, if_pos rfl, ha2, hr2, hT]; simp
  unfold jetonlaw07_TimerTotal.f
  rw [hT, ha, hr, hT]
  simp only [Option.bind_some, if_true]
  by_cases d0 : a0 < 1
  · rw [if_pos d0, h1]
  by_cases d1 : a0 > 64
  · rw [if_neg d0, if_pos d1, h1]
  by_cases d2 : a1 < 0
  · rw [if_neg d0, if_neg d1, if_pos d2, h1]
  by_cases d3 : a1 > 8
  · rw [if_neg d0, if_neg d1, if_neg d2, decide_eq_true d3, h1]
  rw [if_neg d0, if_neg d1, if_neg d2, decide_eq_false d3, hj, if_neg (by simp)]
  have ew' := ew (by omega) (by omega)
  have et' := et (by omega) (by omega)
  subst ew' et'
  rw [timer_Start.f, show mx w 1 = w by unfold mx; rw [if_neg (by omega)]]
  simp only [Option.bind_some]
  rw [Int.mul_sub, Int.mul_one]
  exact hl t (by omega) (by omega) (by omega)

end Go.Proofs.Ytghgmfnebiicgaa.Pure
