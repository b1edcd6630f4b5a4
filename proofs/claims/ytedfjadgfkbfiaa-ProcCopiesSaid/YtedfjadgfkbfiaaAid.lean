/- Plain arithmetic behind the statements on num and timer: doubling with a cap. No Go in it. -/
import Derived.RowKit
import Derived.OpenShut
namespace Go.Proofs.Ytedfjadgfkbfiaa.Aid
open Go.RowKit

theorem wf64 {n : Int} (h : (Lit.int .i64 n).wf = true) : -9223372036854775808 ≤ n ∧ n ≤ 9223372036854775807 := bounds_i64 h

theorem w64 {n : Int} (h0 : -9223372036854775808 ≤ n) (h1 : n ≤ 9223372036854775807) : wrap64 n = n := by
  unfold wrap64; omega

/-- n doubled t times, or the most as soon as it would get above it. -/
def dbl : Nat → Int → Int → Int
  | 0, n, _ => n
  | t + 1, n, most => if 2 * n > most then most else dbl t (2 * n) most

theorem dbl_zero (t : Nat) (most : Int) (h : 0 ≤ most) : dbl t 0 most = 0 := by
  induction t with
  | zero => rfl
  | succ t ih => simp only [dbl]; rw [if_neg (by omega)]; simpa using ih

theorem dbl_top (t : Nat) (most : Int) (h : 0 ≤ most) : dbl t most most = most := by
  cases t with
  | zero => rfl
  | succ t =>
    by_cases e : most = 0
    · subst e; exact dbl_zero _ _ (by omega)
    · simp only [dbl]; rw [if_pos (by omega)]

theorem dbl_bounds (t : Nat) : ∀ (n most : Int), 0 ≤ n → n ≤ most → 0 ≤ dbl t n most ∧ dbl t n most ≤ most := by
  induction t with
  | zero => intro n most h0 h1; exact ⟨h0, h1⟩
  | succ t ih =>
    intro n most h0 h1
    simp only [dbl]
    by_cases h : 2 * n > most
    · rw [if_pos h]; omega
    · rw [if_neg h]; exact ih _ _ (by omega) (by omega)

theorem dbl_add (a b : Nat) : ∀ (n most : Int), 0 ≤ n → n ≤ most → dbl b (dbl a n most) most = dbl (a + b) n most := by
  induction a with
  | zero => intro n most _ _; simp [dbl]
  | succ a ih =>
    intro n most h0 h1
    rw [show a + 1 + b = (a + b) + 1 by omega]
    simp only [dbl]
    by_cases h : 2 * n > most
    · rw [if_pos h, if_pos h]; exact dbl_top _ _ (by omega)
    · rw [if_neg h, if_neg h]; exact ih _ _ (by omega) (by omega)

theorem dbl_big (t : Nat) : ∀ (n most : Int), 1 ≤ n → n ≤ most → most < n * 2 ^ t → dbl t n most = most := by
  induction t with
  | zero => intro n most _ h1 h2; simp at h2; omega
  | succ t ih =>
    intro n most h0 h1 h2
    simp only [dbl]
    by_cases h : 2 * n > most
    · rw [if_pos h]
    · rw [if_neg h]; exact ih _ _ (by omega) (by omega) (by rw [Int.pow_succ] at h2; rw [show 2 * n * 2 ^ t = n * (2 ^ t * 2) by rw [Int.mul_comm 2 n, Int.mul_assoc, Int.mul_comm 2]]; exact h2)

/-- Beyond 63 times the number of times plays no part. -/
theorem dbl_stable (a b : Nat) (n most : Int) (h0 : 0 ≤ n) (h1 : n ≤ most) (h2 : most ≤ 9223372036854775807) (ha : 63 ≤ a) (hb : 63 ≤ b) : dbl a n most = dbl b n most := by
  by_cases e : n = 0
  · subst e; rw [dbl_zero _ _ h1, dbl_zero _ _ h1]
  · have key : ∀ t : Nat, 63 ≤ t → dbl t n most = most := by
      intro t ht
      obtain ⟨s, rfl⟩ : ∃ s, t = 63 + s := ⟨t - 63, by omega⟩
      rw [← dbl_add 63 s n most h0 h1, dbl_big 63 n most (by omega) h1 (by omega), dbl_top _ _ (by omega)]
    rw [key a ha, key b hb]

/-- What num.Double is, of any three numbers. -/
def Dbl (n times most : Int) : Int :=
  let n := if n < 0 then 0 else n
  let most := if most < 0 then 0 else most
  if n > most then most else dbl (if times < 0 then 0 else times.toNat) n most

end Go.Proofs.Ytedfjadgfkbfiaa.Aid
