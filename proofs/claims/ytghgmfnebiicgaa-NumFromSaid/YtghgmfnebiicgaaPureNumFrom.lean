/- num.Double is the reference's Double at every three numbers, never below 0, and never above the most. No conditions. -/
import Derived.Test.YtghgmfnebiicgaaPNumFromx1
import Derived.Test.YtghgmfnebiicgaaNumAid
namespace Go.Proofs.Ytghgmfnebiicgaa.Pure
open Go.RowKit Go.Proofs.Ytghgmfnebiicgaa.PNumFrom Go.Proofs.YtghgmfnebiicgaaW.PrintWords Go.Proofs.YtghgmfnebiicgaaW.PrintLast Go.Proofs.YtghgmfnebiicgaaW.PrintMore Go.Proofs.Ytghgmfnebiicgaa.Aid

theorem NumFrom_awake : jetonlaw01_awake.f 80 = some true := by kernel_rfl

--BEGIN DOUBLE
theorem NumFrom_loop (most : Int) (hm : most ≤ 9223372036854775807) (T : Int) (hT : T ≤ 64) (d : Nat) : ∀ (k : Nat) (n i : Int), 0 ≤ n → n ≤ most → 0 ≤ i → T - i = d → d < k →
    num_Double.l0 k n most T i = some (dbl d n most) := by
  induction d with
  | zero =>
    intro k n i h0 h1 hi hd hk
    obtain ⟨k, rfl⟩ : ∃ m, k = m + 1 := ⟨k - 1, by omega⟩
    simp only [num_Double.l0, dbl]
    rw [if_neg (by omega)]
    unfold mn; rw [if_neg (by omega)]
  | succ d ih =>
    intro k n i h0 h1 hi hd hk
    obtain ⟨k, rfl⟩ : ∃ m, k = m + 1 := ⟨k - 1, by omega⟩
    simp only [num_Double.l0, dbl]
    rw [if_pos (by omega), w64 (n := most - n) (by omega) (by omega)]
    by_cases h : 2 * n > most
    · rw [if_pos (by omega), if_pos h]
    · rw [if_neg (by omega), if_neg h, w64 (n := n + n) (by omega) (by omega), w64 (n := i + 1) (by omega) (by omega), show n + n = 2 * n by omega]
      exact ih _ _ _ (by omega) (by omega) (by omega) (by omega) (by omega)

theorem NumFrom_double (n times most : Int) (hn : n ≤ 9223372036854775807) (hm : most ≤ 9223372036854775807) (k : Nat) (hk : 64 < k) : num_Double.f k n times most = some (Dbl n times most) := by
  unfold num_Double.f Dbl
  simp only [show ∀ x, mx x 0 = (if x < 0 then 0 else x) from fun x => rfl]
  generalize hn' : (if n < 0 then 0 else n) = n'
  generalize hm' : (if most < 0 then 0 else most) = m'
  have a0 : 0 ≤ n' ∧ n' ≤ 9223372036854775807 := by subst hn'; split <;> omega
  have a1 : 0 ≤ m' ∧ m' ≤ 9223372036854775807 := by subst hm'; split <;> omega
  have a2 : ∃ T : Nat, mn (if times < 0 then 0 else times) 64 = T ∧ T ≤ 64 ∧ (T < 64 → (if times < 0 then 0 else times.toNat) = T) ∧ (T = 64 → 64 ≤ (if times < 0 then 0 else times.toNat)) := by
    refine ⟨(mn (if times < 0 then 0 else times) 64).toNat, ?_, ?_, ?_, ?_⟩ <;> unfold mn <;> (repeat' split) <;> omega
  obtain ⟨T, e, hT, s1, s2⟩ := a2
  rw [e]
  by_cases h : n' > m'
  · rw [if_pos h]
    obtain ⟨k, rfl⟩ : ∃ m, k = m + 1 := ⟨k - 1, by omega⟩
    simp only [num_Double.l0]
    rw [w64 (n := m' - n') (by omega) (by omega)]
    by_cases hz : (0 : Int) < T
    · rw [if_pos hz, if_pos (by omega)]
    · rw [if_neg hz]; unfold mn; rw [if_pos (by omega)]
  · rw [if_neg h, NumFrom_loop m' a1.2 T (by omega) T k n' 0 a0.1 (by omega) (by omega) (by omega) (by omega)]
    by_cases ht : T = 64
    · rw [dbl_stable T (if times < 0 then 0 else times.toNat) n' m' a0.1 (by omega) a1.2 (by omega) (by have := s2 ht; omega)]
    · rw [s1 (by omega)]
--END DOUBLE

--BEGIN REFDOUBLE
theorem NumFrom_ref (times most : Int) (hm : most ≤ 9223372036854775807) (d : Nat) : ∀ (k : Nat) (n i : Int), 0 ≤ n → n ≤ most → 0 ≤ i → i ≤ 70 → (if times < 70 then times else 70) - i ≤ d → d + d + 2 < k →
    jetonref01_Double.l0 k n times most i = some (dbl ((if times < 70 then times else 70) - i).toNat n most) := by
  induction d with
  | zero =>
    intro k n i h0 h1 hi hi2 hd hk
    obtain ⟨k, rfl⟩ : ∃ m, k = m + 2 := ⟨k - 2, by omega⟩
    have e : ((if times < 70 then times else 70) - i).toNat = 0 := by omega
    rw [e]
    simp only [jetonref01_Double.l0, jetonref01_Double.j3, dbl]
    by_cases c : i < times
    · have c2 : decide (i < 70) = false := decide_eq_false (by split at hd <;> omega)
      rw [if_pos c, c2, if_neg (by simp)]
    · rw [if_neg c, if_neg (by simp)]
  | succ d ih =>
    intro k n i h0 h1 hi hi2 hd hk
    obtain ⟨k, rfl⟩ : ∃ m, k = m + 2 := ⟨k - 2, by omega⟩
    by_cases c : i < (if times < 70 then times else 70)
    · have c1 : i < times := by split at c <;> omega
      have c2 : decide (i < 70) = true := decide_eq_true (by split at c <;> omega)
      have e : ((if times < 70 then times else 70) - i).toNat = ((if times < 70 then times else 70) - (i + 1)).toNat + 1 := by omega
      rw [e]
      simp only [jetonref01_Double.l0, jetonref01_Double.j3, dbl]
      have q : Int.tdiv most 2 = most / 2 := Int.tdiv_eq_ediv_of_nonneg (by omega)
      rw [if_pos c1, c2, if_pos rfl, q, w64 (n := most / 2) (by omega) (by omega)]
      by_cases h : 2 * n > most
      · rw [if_pos (by omega), if_pos h]
      · rw [if_neg (by omega), if_neg h, w64 (n := 2 * n) (by omega) (by omega), w64 (n := i + 1) (by omega) (by omega)]
        exact ih _ _ _ (by omega) (by omega) (by omega) (by split at c <;> omega) (by omega) (by omega)
    · have e : ((if times < 70 then times else 70) - i).toNat = 0 := by omega
      rw [e]
      simp only [jetonref01_Double.l0, jetonref01_Double.j3, dbl]
      by_cases c1 : i < times
      · have c2 : decide (i < 70) = false := decide_eq_false (by split at c <;> omega)
        rw [if_pos c1, c2, if_neg (by simp)]
      · rw [if_neg c1, if_neg (by simp)]

theorem NumFrom_double_ref (n times most : Int) (hn : n ≤ 9223372036854775807) (hm : most ≤ 9223372036854775807) (k : Nat) (hk : 150 < k) : jetonref01_Double.f k n times most = some (Dbl n times most) := by
  unfold jetonref01_Double.f Dbl
  have a2 : ∃ m, k = m + 2 := ⟨k - 2, by omega⟩
  obtain ⟨k, rfl⟩ := a2
  have s : (if n < 0 then jetonref01_Double.j0 (k + 2) 0 times most else jetonref01_Double.j0 (k + 2) n times most) = jetonref01_Double.j0 (k + 2) (if n < 0 then 0 else n) times most := by split <;> rfl
  rw [s]
  simp only [jetonref01_Double.j0]
  have s2 : ∀ n, (if most < 0 then jetonref01_Double.j1 (k + 1) n times 0 else jetonref01_Double.j1 (k + 1) n times most) = jetonref01_Double.j1 (k + 1) n times (if most < 0 then 0 else most) := fun n => by split <;> rfl
  rw [s2]
  generalize hn' : (if n < 0 then 0 else n) = n'
  generalize hm' : (if most < 0 then 0 else most) = m'
  have a0 : 0 ≤ n' ∧ n' ≤ 9223372036854775807 := by subst hn'; split <;> omega
  have a1 : 0 ≤ m' ∧ m' ≤ 9223372036854775807 := by subst hm'; split <;> omega
  simp only [jetonref01_Double.j1]
  by_cases h : n' > m'
  · rw [if_pos h, if_pos h]
  · rw [if_neg h, if_neg h, NumFrom_ref times m' a1.2 70 k n' 0 a0.1 (by omega) (by omega) (by omega) (by split <;> omega) (by omega)]
    by_cases ht : times < 70
    · rw [if_pos ht, Int.sub_zero]
      by_cases hz : times < 0
      · rw [if_pos hz, show times.toNat = 0 by omega]
      · rw [if_neg hz]
    · rw [if_neg ht, dbl_stable _ (if times < 0 then 0 else times.toNat) n' m' a0.1 (by omega) a1.2 (by omega) (by rw [if_neg (by omega)]; omega)]
--END REFDOUBLE

theorem NumFrom : jetonlaw01_NumFrom.Pure := by
  intro n times most wn _ wm
  have bn := wf64 wn
  have bm := wf64 wm
  have ha : jetonlaw01_awake.f 200 = some true := at_rounds jetonlaw01_awake.mono (by omega) NumFrom_awake
  refine ⟨200, ?_⟩
  unfold jetonlaw01_NumFrom.f
  rw [NumFrom_double n times most bn.2 bm.2 200 (by omega), NumFrom_double_ref n times most bn.2 bm.2 200 (by omega), ha]
  have hb : 0 ≤ Dbl n times most ∧ Dbl n times most ≤ mx most 0 := by
    unfold Dbl mx
    simp only []
    generalize hn' : (if n < 0 then 0 else n) = n'
    generalize hm' : (if most < 0 then 0 else most) = m'
    have a0 : 0 ≤ n' := by subst hn'; split <;> omega
    have a1 : 0 ≤ m' := by subst hm'; split <;> omega
    by_cases h : n' > m'
    · rw [if_pos h]; omega
    · rw [if_neg h]; exact dbl_bounds _ _ _ a0 (by omega)
  simp [hb.1, hb.2]

end Go.Proofs.Ytghgmfnebiicgaa.Pure
