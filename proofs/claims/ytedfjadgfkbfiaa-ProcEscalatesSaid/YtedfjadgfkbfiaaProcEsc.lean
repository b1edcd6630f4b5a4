/- What a processor's timer comes to, tick by tick: plain arithmetic. -/
import Derived.Test.YtedfjadgfkbfiaaProcApi
import Derived.Test.YtedfjadgfkbfiaaPProcEscalatesx1
namespace Go.Proofs.Ytedfjadgfkbfiaa.ProcW
open Go.RowKit Go.Proofs.YtedfjadgfkbfiaaW.PrintWords Go.Proofs.YtedfjadgfkbfiaaW.PrintLast Go.Proofs.YtedfjadgfkbfiaaW.PrintMore Go.Proofs.Ytedfjadgfkbfiaa.Timer Go.Proofs.Ytedfjadgfkbfiaa.Aid
set_option linter.unusedVariables false
theorem TimerTotal_pow (w : Int) (t j : Nat) (b0 : 1 ≤ w) (h : j < t) : 4 * (w * 2 ^ j) ≤ w * 2 ^ (t + 1) := by
  have e : w * 2 ^ (t + 1) = w * 2 ^ j * 4 * 2 ^ (t - j - 1) := by
    rw [show t + 1 = j + 2 + (t - j - 1) by omega, Int.pow_add, Int.pow_add, show (2 : Int) ^ 2 = 4 from rfl, ← Int.mul_assoc, ← Int.mul_assoc]
  have p : (1 : Int) ≤ 2 ^ (t - j - 1) := by
    have : 0 < (2 : Int) ^ (t - j - 1) := Int.pow_pos (by omega)
    omega
  have q : 0 ≤ w * 2 ^ j := Int.mul_nonneg (by omega) (Int.le_of_lt (Int.pow_pos (by omega)))
  rw [e]
  generalize w * 2 ^ j = z at *
  have := Int.mul_le_mul_of_nonneg_left p (show 0 ≤ z * 4 by omega)
  omega

theorem TimerTotal_pow_le (w : Int) (j : Nat) (b0 : 1 ≤ w) (b1 : w ≤ 64) (h : j ≤ 9) : 1 ≤ w * 2 ^ j ∧ w * 2 ^ j ≤ 32768 := by
  have hc : j = 0 ∨ j = 1 ∨ j = 2 ∨ j = 3 ∨ j = 4 ∨ j = 5 ∨ j = 6 ∨ j = 7 ∨ j = 8 ∨ j = 9 := by omega
  rcases hc with rfl | rfl | rfl | rfl | rfl | rfl | rfl | rfl | rfl | rfl <;> omega

theorem TimerTotal_dbl (j : Nat) : ∀ n most : Int, 0 ≤ n → n * 2 ^ j ≤ most → dbl j n most = n * 2 ^ j := by
  induction j with
  | zero => intro n most _ _; simp [dbl]
  | succ j ih =>
    intro n most h0 h
    have e : n * 2 ^ (j + 1) = 2 * n * 2 ^ j := by rw [Int.pow_succ, Int.mul_comm (2 ^ j) 2, ← Int.mul_assoc, Int.mul_comm n 2]
    rw [e] at h ⊢
    have p : (1 : Int) ≤ 2 ^ j := by
      have : 0 < (2 : Int) ^ j := Int.pow_pos (by omega)
      omega
    have := Int.mul_le_mul_of_nonneg_left p (show 0 ≤ 2 * n by omega)
    simp only [dbl]
    rw [if_neg (by omega)]
    exact ih _ _ (by omega) h

theorem TimerTotal_refloop (t : Nat) (ht : t ≤ 8) (d : Nat) : ∀ (k : Nat) (w n i : Int), 0 ≤ i → (t : Int) + 1 - i = d → d < k → 0 ≤ w → w * 2 ^ d ≤ 32768 → 0 ≤ n → n ≤ 1000000 - d * 32768 →
    PProcEscalates.jetonref07_Total.l0 k w (t : Int) n i = some (n + w * (2 ^ d - 1)) := by
  induction d with
  | zero =>
    intro k w n i h0 h1 hk hw hb hn hm
    obtain ⟨k, rfl⟩ : ∃ m, k = m + 1 := ⟨k - 1, by omega⟩
    simp only [PProcEscalates.jetonref07_Total.l0]
    rw [if_neg (by omega)]; simp
  | succ d ih =>
    intro k w n i h0 h1 hk hw hb hn hm
    obtain ⟨k, rfl⟩ : ∃ m, k = m + 1 := ⟨k - 1, by omega⟩
    have p : (1 : Int) ≤ 2 ^ d := by
      have : 0 < (2 : Int) ^ d := Int.pow_pos (by omega)
      omega
    have e : w * 2 ^ (d + 1) = 2 * w * 2 ^ d := by rw [Int.pow_succ, Int.mul_comm (2 ^ d) 2, ← Int.mul_assoc, Int.mul_comm w 2]
    have q := Int.mul_le_mul_of_nonneg_left p (show 0 ≤ 2 * w by omega)
    rw [Int.mul_one] at q
    simp only [PProcEscalates.jetonref07_Total.l0]
    rw [if_pos (by omega), w64 (n := 2 * w) (by omega) (by omega), w64 (n := n + w) (by omega) (by omega), w64 (n := i + 1) (by omega) (by omega)]
    rw [ih k (2 * w) (n + w) (i + 1) (by omega) (by omega) (by omega) (by omega) (by omega) (by omega) (by omega)]
    rw [Int.mul_sub, Int.mul_sub, e, Int.mul_one, Int.mul_one]
    congr 1; omega


theorem ref_total (w : Int) (t : Nat) (b0 : 1 ≤ w) (b1 : w ≤ 64) (ht : t ≤ 8) : PProcEscalates.jetonref07_Total.f 20 w (t : Int) = some (w * (2 ^ (t + 1) - 1)) := by
  have c : ∀ x lo hi : Int, lo ≤ x → x ≤ hi → PProcEscalates.jetonref01_Clamp.f 20 x lo hi = some x := by
    intro x lo hi h0 h1
    simp only [PProcEscalates.jetonref01_Clamp.f, PProcEscalates.jetonref01_Clamp.j0]
    rw [if_neg (by omega), decide_eq_false (by omega), if_neg (by simp), if_neg (by omega)]
  unfold PProcEscalates.jetonref07_Total.f
  rw [c w 1 64 b0 b1, c t 0 8 (by omega) (by omega), Option.bind_some, Option.bind_some]
  have b := TimerTotal_pow_le w (t + 1) b0 b1 (by omega)
  rw [TimerTotal_refloop t ht (t + 1) 20 w 0 0 (by omega) (by omega) (by omega) (by omega) b.2 (by omega) (by omega), Int.zero_add]

/-- A processor whose timer has been ticked i times, of n till nothing is tried any more, and was tried again so often. -/
def Esc (w : Int) (t : Nat) (n i again : Int) (s : P) : Prop :=
  s.bz = true ∧ s.wt = w ∧ s.tr = t ∧ s.fits ∧ ((s.O = true ∧ n ≤ i ∧ again = t) ∨
    ∃ (j : Nat) (p e : Int), s.O = false ∧ s.T = j ∧ again = j ∧ j ≤ t ∧ 1 ≤ s.L ∧ s.L ≤ p ∧ p = w * 2 ^ j ∧ e = w * 2 ^ (t + 1) ∧ n - i = s.L + e - 2 * p)

theorem esc_step {w : Int} {t : Nat} {n i again : Int} {s : P} (b0 : 1 ≤ w) (b1 : w ≤ 64) (ht : t ≤ 8) (h : Esc w t n i again s) :
    (i < n - 1 ∧ s.what = 0 ∧ Esc w t n (i + 1) again s.tick) ∨ (i < n - 1 ∧ s.what = 1 ∧ Esc w t n (i + 1) (again + 1) s.tick) ∨
    (i = n - 1 ∧ s.what = 2 ∧ Esc w t n (i + 1) again s.tick) ∨ (n ≤ i ∧ s.what = 0 ∧ Esc w t n (i + 1) again s.tick) := by
  obtain ⟨hz, hw, hr, hf, h⟩ := h
  have hf' := P.tick_fits hf
  rcases h with ⟨ho, hi, ha⟩ | ⟨j, p, e, ho, hT, ha, hj, l0, l1, hp, he, hn⟩
  · right; right; right
    refine ⟨hi, by simp [P.what, tW, ho], hz, hw, hr, hf', .inl ⟨by simp [P.tick, tO, ho], by omega, ha⟩⟩
  · have bp := TimerTotal_pow_le w j b0 b1 (by omega)
    have elast : j = t → e = 2 * p := fun c => by subst c; rw [he, hp, Int.pow_succ, Int.mul_comm (2 ^ j) 2, ← Int.mul_assoc, Int.mul_comm w 2, Int.mul_assoc]
    have efirst : j < t → 4 * p ≤ e := fun c => by have := TimerTotal_pow w t j b0 c; omega
    by_cases c : s.L > 1
    · left
      refine ⟨?_, by simp [P.what, tW, ho, c], hz, hw, hr, hf', .inr ⟨j, p, e, by simp [P.tick, tO, ho, c], by simp [P.tick, tT, ho, c, hT], ha, hj, ?_, ?_, hp, he, ?_⟩⟩
      · by_cases cj : j = t
        · have := elast cj; omega
        · have := efirst (by omega); omega
      all_goals
        have e1 : s.tick.L = s.L - 1 := by simp [P.tick, tL, ho, c]
        omega
    · by_cases cj : j = t
      · right; right; left
        have e2 := elast cj
        have c2 : ¬ s.T < s.tr := by omega
        refine ⟨by omega, by simp [P.what, tW, ho, c, c2], hz, hw, hr, hf', .inl ⟨by simp [P.tick, tO, ho, c, c2], by omega, by omega⟩⟩
      · right; left
        have e2 := efirst (by omega)
        have c2 : s.T < s.tr := by omega
        have e3 : 2 * p = w * 2 ^ (j + 1) := by rw [hp, Int.pow_succ, Int.mul_comm (2 ^ j) 2, ← Int.mul_assoc, ← Int.mul_assoc, Int.mul_comm w 2]
        have bq := TimerTotal_pow_le w (j + 1) b0 b1 (by omega)
        have hd : Dbl s.wt (s.T + 1) 1048576 = 2 * p := by
          rw [hw, hT, e3]
          unfold Dbl
          simp only []
          rw [if_neg (show ¬ w < 0 by omega), if_neg (show ¬ (1048576 : Int) < 0 by omega), if_neg (show ¬ w > 1048576 by omega), if_neg (show ¬ ((j : Int) + 1 < 0) by omega), show ((j : Int) + 1).toNat = j + 1 by omega]
          exact TimerTotal_dbl _ _ _ (by omega) (by omega)
        have eL : s.tick.L = 2 * p := by
          simp only [P.tick, tL, ho, if_neg c, if_pos c2, hd]
          rw [if_neg (by simp), if_neg (by omega)]
        have eT : s.tick.T = ((j + 1 : Nat) : Int) := by
          simp only [P.tick, tT, ho, if_neg c, if_pos c2]
          rw [if_neg (by simp), hT]; omega
        refine ⟨by omega, by simp [P.what, tW, ho, c, c2], hz, hw, hr, hf', .inr ⟨j + 1, 2 * p, e, by simp [P.tick, tO, ho, c, c2], eT, by omega, by omega, by omega, by omega, e3, he, by omega⟩⟩

theorem esc_again {w : Int} {t : Nat} {n i again : Int} {s : P} (h : Esc w t n i again s) : 0 ≤ again ∧ again ≤ t := by
  obtain ⟨_, _, _, _, h⟩ := h
  rcases h with ⟨_, _, ha⟩ | ⟨j, _, _, _, _, ha, hj, _⟩ <;> omega

theorem esc_end {w : Int} {t : Nat} {n i again : Int} {s : P} (b0 : 1 ≤ w) (b1 : w ≤ 64) (ht : t ≤ 8) (h : Esc w t n i again s) (hi : n ≤ i) : again = t := by
  obtain ⟨_, _, _, _, h⟩ := h
  rcases h with ⟨_, _, ha⟩ | ⟨j, p, e, _, _, ha, hj, l0, l1, hp, he, hn⟩
  · exact ha
  · exfalso
    have bp := TimerTotal_pow_le w j b0 b1 (by omega)
    by_cases cj : j = t
    · have : e = 2 * p := by subst cj; rw [he, hp, Int.pow_succ, Int.mul_comm (2 ^ j) 2, ← Int.mul_assoc, Int.mul_comm w 2, Int.mul_assoc]
      omega
    · have := TimerTotal_pow w t j b0 (by omega); omega

theorem esc_start {w : Int} {t : Nat} (b0 : 1 ≤ w) (b1 : w ≤ 64) (ht : t ≤ 8) (b : Int) (wr : Bool) (v : Int) : Esc w t (w * (2 ^ (t + 1) - 1)) 0 0 ((P.new w t).issue b wr v) := by
  have hl : ((P.new w t).issue b wr v).L = w := by
    show (if w < 1 then 1 else w) = w
    rw [if_neg (by omega)]
  refine ⟨rfl, rfl, rfl, P.issue_fits (P.new_fits w t (by omega) (by omega)) b wr v, .inr ⟨0, w, w * 2 ^ (t + 1), rfl, rfl, rfl, by omega, by omega, by omega, by simp, rfl, ?_⟩⟩
  rw [hl, Int.mul_sub, Int.mul_one]; omega
end Go.Proofs.Ytedfjadgfkbfiaa.ProcW
