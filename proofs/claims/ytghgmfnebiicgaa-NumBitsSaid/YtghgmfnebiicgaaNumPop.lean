/- Plain arithmetic behind bits.OnesCount64: masks, shifts and sums count the bits that are 1. No Go in it. -/
import Derived.Laws.BitsAllLaws
import Derived.Laws.Bits128
import Derived.RowKit
set_option linter.unusedVariables false
namespace Go.Proofs.Ytghgmfnebiicgaa.Pop

/-- How many of the lowest n bits are 1. -/
def pop : Nat → Nat → Nat
  | 0, _ => 0
  | n + 1, x => x % 2 + pop n (x / 2)

theorem pop_le (n : Nat) : ∀ x, pop n x ≤ n := by
  induction n with
  | zero => intro x; simp [pop]
  | succ n ih => intro x; have := ih (x / 2); simp only [pop]; omega

theorem pop_opposite (n : Nat) : ∀ x, x < 2 ^ n → pop n x + pop n (2 ^ n - 1 - x) = n := by
  induction n with
  | zero => intro x _; simp [pop]
  | succ n ih =>
    intro x hx
    have e : 2 ^ (n + 1) = 2 * 2 ^ n := by rw [Nat.pow_succ, Nat.mul_comm]
    have := ih (x / 2) (by omega)
    simp only [pop]
    have e2 : (2 ^ (n + 1) - 1 - x) / 2 = 2 ^ n - 1 - x / 2 := by omega
    rw [e2]; omega

theorem and_split (k x y : Nat) : x &&& y = (x % 2 ^ k &&& y % 2 ^ k) + 2 ^ k * (x / 2 ^ k &&& y / 2 ^ k) := by
  rw [← Nat.and_mod_two_pow, ← Nat.and_div_two_pow, Nat.mod_add_div]

/-- A mask of n digits c, each of k bits. -/
def mask (k c : Nat) : Nat → Nat
  | 0 => 0
  | n + 1 => c + 2 ^ k * mask k c n

theorem and_mask (k c n x : Nat) (hc : c < 2 ^ k) : x &&& mask k c (n + 1) = (x % 2 ^ k &&& c) + 2 ^ k * (x / 2 ^ k &&& mask k c n) := by
  rw [and_split k x (mask k c (n + 1))]
  simp only [mask]
  rw [Nat.add_mul_mod_self_left, Nat.mod_eq_of_lt hc, Nat.add_mul_div_left _ _ (by exact Nat.two_pow_pos k), Nat.div_eq_of_lt hc, Nat.zero_add]

def s1 : Nat → Nat → Nat
  | 0, _ => 0
  | n + 1, x => (x % 2 + x / 2 % 2) + 4 * s1 n (x / 4)
def s2 : Nat → Nat → Nat
  | 0, _ => 0
  | n + 1, x => (x % 2 + x / 2 % 2 + x / 4 % 2 + x / 8 % 2) + 16 * s2 n (x / 16)
def s3 : Nat → Nat → Nat
  | 0, _ => 0
  | n + 1, x => (x % 2 + x / 2 % 2 + x / 4 % 2 + x / 8 % 2 + x / 16 % 2 + x / 32 % 2 + x / 64 % 2 + x / 128 % 2) + 256 * s3 n (x / 256)

theorem and_one (x : Nat) : x &&& 1 = x % 2 := Nat.and_one_is_mod x
theorem and_three (x : Nat) : x &&& 3 = x % 4 := Nat.and_two_pow_sub_one_eq_mod x 2
theorem and_fifteen (x : Nat) : x &&& 15 = x % 16 := Nat.and_two_pow_sub_one_eq_mod x 4

theorem st1 (n : Nat) : ∀ x, (x / 2 &&& mask 2 1 n) + (x &&& mask 2 1 n) = s1 n x := by
  induction n with
  | zero => intro x; simp [mask, s1]
  | succ n ih =>
    intro x
    rw [and_mask 2 1 n _ (by omega), and_mask 2 1 n _ (by omega)]
    have := ih (x / 4)
    simp only [s1, and_one, show (2 : Nat) ^ 2 = 4 from rfl]
    rw [show x / 2 / 4 = x / 4 / 2 by omega]
    omega

theorem st2 (n : Nat) : ∀ x, (s1 (n + n) x / 4 &&& mask 4 3 n) + (s1 (n + n) x &&& mask 4 3 n) = s2 n x := by
  induction n with
  | zero => intro x; simp [mask, s1, s2]
  | succ n ih =>
    intro x
    rw [and_mask 4 3 n _ (by omega), and_mask 4 3 n _ (by omega)]
    have h := ih (x / 16)
    rw [show n + 1 + (n + 1) = (n + n) + 1 + 1 by omega]
    simp only [s1, s2, and_three, show (2 : Nat) ^ 4 = 16 from rfl]
    rw [show x / 4 / 4 = x / 16 by omega]
    have ha : x % 2 + x / 2 % 2 ≤ 2 := by omega
    have hb : x / 4 % 2 + x / 4 / 2 % 2 ≤ 2 := by omega
    have hs : x % 2 + x / 2 % 2 + x / 4 % 2 + x / 8 % 2 = (x % 2 + x / 2 % 2) + (x / 4 % 2 + x / 4 / 2 % 2) := by omega
    rw [hs]
    generalize x % 2 + x / 2 % 2 = a at *
    generalize x / 4 % 2 + x / 4 / 2 % 2 = b at *
    generalize s1 (n + n) (x / 16) = y at *
    generalize s2 n (x / 16) = z at *
    clear hs ih
    have e1 : (a + 4 * (b + 4 * y)) / 4 = b + 4 * y := by omega
    have e2 : (a + 4 * (b + 4 * y)) / 16 = y := by omega
    have e3 : (b + 4 * y) / 16 = y / 4 := by omega
    have e4 : (b + 4 * y) % 16 % 4 = b := by omega
    have e5 : (a + 4 * (b + 4 * y)) % 16 % 4 = a := by omega
    rw [e1, e2, e3, e4, e5]
    omega

theorem s2_mod (n x : Nat) : s2 n x % 16 ≤ 4 := by
  cases n with
  | zero => simp [s2]
  | succ n =>
    simp only [s2]
    rw [Nat.add_mul_mod_self_left]
    have h : x % 2 + x / 2 % 2 + x / 4 % 2 + x / 8 % 2 ≤ 4 := by omega
    exact Nat.le_trans (Nat.mod_le _ _) h

theorem st3 (n : Nat) : ∀ x, (s2 (n + n) x / 16 + s2 (n + n) x) &&& mask 8 15 n = s3 n x := by
  induction n with
  | zero => intro x; simp [mask, s3]
  | succ n ih =>
    intro x
    rw [and_mask 8 15 n _ (by omega)]
    have h := ih (x / 256)
    rw [show n + 1 + (n + 1) = (n + n) + 1 + 1 by omega]
    simp only [s2, s3, and_fifteen, show (2 : Nat) ^ 8 = 256 from rfl]
    rw [show x / 16 / 16 = x / 256 by omega]
    have ha : x % 2 + x / 2 % 2 + x / 4 % 2 + x / 8 % 2 ≤ 4 := by omega
    have hb : x / 16 % 2 + x / 16 / 2 % 2 + x / 16 / 4 % 2 + x / 16 / 8 % 2 ≤ 4 := by omega
    have hs : x % 2 + x / 2 % 2 + x / 4 % 2 + x / 8 % 2 + x / 16 % 2 + x / 32 % 2 + x / 64 % 2 + x / 128 % 2 = (x % 2 + x / 2 % 2 + x / 4 % 2 + x / 8 % 2) + (x / 16 % 2 + x / 16 / 2 % 2 + x / 16 / 4 % 2 + x / 16 / 8 % 2) := by
      rw [show x / 16 / 2 = x / 32 by omega, show x / 16 / 4 = x / 64 by omega, show x / 16 / 8 = x / 128 by omega]
      simp only [Nat.add_assoc]
    rw [hs]
    generalize x % 2 + x / 2 % 2 + x / 4 % 2 + x / 8 % 2 = a at *
    generalize x / 16 % 2 + x / 16 / 2 % 2 + x / 16 / 4 % 2 + x / 16 / 8 % 2 = b at *
    have hy := s2_mod (n + n) (x / 256)
    generalize s2 (n + n) (x / 256) = y at *
    generalize s3 n (x / 256) = z at *
    clear hs ih
    have e0 : (a + 16 * (b + 16 * y)) / 16 = b + 16 * y := by omega
    have e1 : (b + 16 * y + (a + 16 * (b + 16 * y))) / 256 = y / 16 + y := by omega
    have e2 : (b + 16 * y + (a + 16 * (b + 16 * y))) % 256 % 16 = a + b := by omega
    rw [e0, e1, e2]
    omega

theorem s1_lt (n : Nat) : ∀ x, s1 n x < 4 ^ n := by
  induction n with
  | zero => intro x; simp [s1]
  | succ n ih => intro x; have := ih (x / 4); simp only [s1, Nat.pow_succ]; omega

theorem s2_lt (n : Nat) : ∀ x, s2 n x < 16 ^ n := by
  induction n with
  | zero => intro x; simp [s2]
  | succ n ih => intro x; have := ih (x / 16); simp only [s2, Nat.pow_succ]; omega

theorem pop8 (n x : Nat) : pop (n + 8) x = (x % 2 + x / 2 % 2 + x / 4 % 2 + x / 8 % 2 + x / 16 % 2 + x / 32 % 2 + x / 64 % 2 + x / 128 % 2) + pop n (x / 256) := by
  simp only [show n + 8 = n + 1 + 1 + 1 + 1 + 1 + 1 + 1 + 1 from rfl]
  simp only [pop]
  rw [show x / 2 / 2 = x / 4 by omega, show x / 4 / 2 = x / 8 by omega, show x / 8 / 2 = x / 16 by omega, show x / 16 / 2 = x / 32 by omega, show x / 32 / 2 = x / 64 by omega, show x / 64 / 2 = x / 128 by omega, show x / 128 / 2 = x / 256 by omega]
  simp only [Nat.add_assoc]

theorem s3_end (x : Nat) : ∃ a b c d e f g h : Nat, a ≤ 8 ∧ b ≤ 8 ∧ c ≤ 8 ∧ d ≤ 8 ∧ e ≤ 8 ∧ f ≤ 8 ∧ g ≤ 8 ∧ h ≤ 8 ∧ pop 64 x = a + b + c + d + e + f + g + h ∧
    s3 8 x = a + 256 * b + 65536 * c + 16777216 * d + 4294967296 * e + 1099511627776 * f + 281474976710656 * g + 72057594037927936 * h := by
  have key : ∀ y, ∃ a : Nat, a ≤ 8 ∧ (∀ n, pop (n + 8) y = a + pop n (y / 256)) ∧ ∀ n, s3 (n + 1) y = a + 256 * s3 n (y / 256) := fun y =>
    ⟨_, by omega, fun n => pop8 n y, fun n => by simp only [s3]⟩
  obtain ⟨a, ha, pa, qa⟩ := key x
  obtain ⟨b, hb, pb, qb⟩ := key (x / 256)
  obtain ⟨c, hc, pc, qc⟩ := key (x / 256 / 256)
  obtain ⟨d, hd, pd, qd⟩ := key (x / 256 / 256 / 256)
  obtain ⟨e, he, pe, qe⟩ := key (x / 256 / 256 / 256 / 256)
  obtain ⟨f, hf, pf, qf⟩ := key (x / 256 / 256 / 256 / 256 / 256)
  obtain ⟨g, hg, pg, qg⟩ := key (x / 256 / 256 / 256 / 256 / 256 / 256)
  obtain ⟨h, hh, ph, qh⟩ := key (x / 256 / 256 / 256 / 256 / 256 / 256 / 256)
  refine ⟨a, b, c, d, e, f, g, h, ha, hb, hc, hd, he, hf, hg, hh, ?_, ?_⟩
  · rw [show (64 : Nat) = 56 + 8 from rfl, pa, show (56 : Nat) = 48 + 8 from rfl, pb, show (48 : Nat) = 40 + 8 from rfl, pc, show (40 : Nat) = 32 + 8 from rfl, pd, show (32 : Nat) = 24 + 8 from rfl, pe, show (24 : Nat) = 16 + 8 from rfl, pf, show (16 : Nat) = 8 + 8 from rfl, pg, show (8 : Nat) = 0 + 8 from rfl, ph]
    simp only [pop]; omega
  · rw [show s3 8 x = s3 (7 + 1) x from rfl, qa, show (7 : Nat) = 6 + 1 from rfl, qb, show (6 : Nat) = 5 + 1 from rfl, qc, show (5 : Nat) = 4 + 1 from rfl, qd, show (4 : Nat) = 3 + 1 from rfl, qe, show (3 : Nat) = 2 + 1 from rfl, qf, show (2 : Nat) = 1 + 1 from rfl, qg, show (1 : Nat) = 0 + 1 from rfl, qh]
    simp only [s3]; omega

theorem mask1 : mask 2 1 32 = 6148914691236517205 := by decide +kernel
theorem mask2 : mask 4 3 16 = 3689348814741910323 := by decide +kernel
theorem mask3 : mask 8 15 8 = 1085102592571150095 := by decide +kernel

theorem end1 (a b c d e f g h : Nat) (ha : a ≤ 8) (hb : b ≤ 8) (hc : c ≤ 8) (hd : d ≤ 8) (he : e ≤ 8) (hf : f ≤ 8) (hg : g ≤ 8) (hh : h ≤ 8) : ((a) + 256 * (b) + 65536 * (c) + 16777216 * (d) + 4294967296 * (e) + 1099511627776 * (f) + 281474976710656 * (g) + 72057594037927936 * (h)) / 256 = (b) + 256 * (c) + 65536 * (d) + 16777216 * (e) + 4294967296 * (f) + 1099511627776 * (g) + 281474976710656 * (h) := by omega
theorem end2 (a b c d e f g h : Nat) : ((a) + 256 * (b) + 65536 * (c) + 16777216 * (d) + 4294967296 * (e) + 1099511627776 * (f) + 281474976710656 * (g) + 72057594037927936 * (h)) + ((b) + 256 * (c) + 65536 * (d) + 16777216 * (e) + 4294967296 * (f) + 1099511627776 * (g) + 281474976710656 * (h)) = (a + b) + 256 * (b + c) + 65536 * (c + d) + 16777216 * (d + e) + 4294967296 * (e + f) + 1099511627776 * (f + g) + 281474976710656 * (g + h) + 72057594037927936 * (h) := by omega
theorem end3 (a b c d e f g h : Nat) (ha : a ≤ 8) (hb : b ≤ 8) (hc : c ≤ 8) (hd : d ≤ 8) (he : e ≤ 8) (hf : f ≤ 8) (hg : g ≤ 8) (hh : h ≤ 8) : ((a + b) + 256 * (b + c) + 65536 * (c + d) + 16777216 * (d + e) + 4294967296 * (e + f) + 1099511627776 * (f + g) + 281474976710656 * (g + h) + 72057594037927936 * (h)) / 65536 = (c + d) + 256 * (d + e) + 65536 * (e + f) + 16777216 * (f + g) + 4294967296 * (g + h) + 1099511627776 * (h) := by omega
theorem end4 (a b c d e f g h : Nat) : ((a + b) + 256 * (b + c) + 65536 * (c + d) + 16777216 * (d + e) + 4294967296 * (e + f) + 1099511627776 * (f + g) + 281474976710656 * (g + h) + 72057594037927936 * (h)) + ((c + d) + 256 * (d + e) + 65536 * (e + f) + 16777216 * (f + g) + 4294967296 * (g + h) + 1099511627776 * (h)) = (a + b + c + d) + 256 * (b + c + d + e) + 65536 * (c + d + e + f) + 16777216 * (d + e + f + g) + 4294967296 * (e + f + g + h) + 1099511627776 * (f + g + h) + 281474976710656 * (g + h) + 72057594037927936 * (h) := by omega
theorem end5 (a b c d e f g h : Nat) (ha : a ≤ 8) (hb : b ≤ 8) (hc : c ≤ 8) (hd : d ≤ 8) (he : e ≤ 8) (hf : f ≤ 8) (hg : g ≤ 8) (hh : h ≤ 8) : ((a + b + c + d) + 256 * (b + c + d + e) + 65536 * (c + d + e + f) + 16777216 * (d + e + f + g) + 4294967296 * (e + f + g + h) + 1099511627776 * (f + g + h) + 281474976710656 * (g + h) + 72057594037927936 * (h)) / 4294967296 = (e + f + g + h) + 256 * (f + g + h) + 65536 * (g + h) + 16777216 * (h) := by omega
theorem end6 (a b c d e f g h : Nat) : ((a + b + c + d) + 256 * (b + c + d + e) + 65536 * (c + d + e + f) + 16777216 * (d + e + f + g) + 4294967296 * (e + f + g + h) + 1099511627776 * (f + g + h) + 281474976710656 * (g + h) + 72057594037927936 * (h)) + ((e + f + g + h) + 256 * (f + g + h) + 65536 * (g + h) + 16777216 * (h)) = (a + b + c + d + e + f + g + h) + 128 * (2 * (b + c + d + e + f + g + h) + 512 * (c + d + e + f + g + h) + 131072 * (d + e + f + g + h) + 33554432 * (e + f + g + h) + 8589934592 * (f + g + h) + 2199023255552 * (g + h) + 562949953421312 * (h)) := by omega
theorem ones_end (a b c d e f g h : Nat) (ha : a ≤ 8) (hb : b ≤ 8) (hc : c ≤ 8) (hd : d ≤ 8) (he : e ≤ 8) (hf : f ≤ 8) (hg : g ≤ 8) (hh : h ≤ 8) (t : Nat) (ht : t = (a) + 256 * (b) + 65536 * (c) + 16777216 * (d) + 4294967296 * (e) + 1099511627776 * (f) + 281474976710656 * (g) + 72057594037927936 * (h)) :
    t + t / 256 < 18446744073709551616 ∧ (t + t / 256) + (t + t / 256) / 65536 < 18446744073709551616 ∧
      ((t + t / 256) + (t + t / 256) / 65536) + ((t + t / 256) + (t + t / 256) / 65536) / 4294967296 < 9223372036854775808 ∧
      (((t + t / 256) + (t + t / 256) / 65536) + ((t + t / 256) + (t + t / 256) / 65536) / 4294967296) % 128 = a + b + c + d + e + f + g + h := by
  subst ht
  rw [end1 a b c d e f g h ha hb hc hd he hf hg hh, end2, end3 a b c d e f g h ha hb hc hd he hf hg hh, end4, end5 a b c d e f g h ha hb hc hd he hf hg hh]
  refine ⟨by omega, by omega, by omega, ?_⟩
  rw [end6, Nat.add_mul_mod_self_left, Nat.mod_eq_of_lt (by omega)]

set_option maxHeartbeats 1000000 in
/-- The whole count, on natural numbers. -/
theorem ones_nat (x : Nat) (_hx : x < 18446744073709551616) :
    ∃ y z t : Nat, (x / 2 &&& 6148914691236517205) + (x &&& 6148914691236517205) = y ∧ y < 18446744073709551616 ∧
      (y / 4 &&& 3689348814741910323) + (y &&& 3689348814741910323) = z ∧ z / 16 + z < 18446744073709551616 ∧
      (z / 16 + z) &&& 1085102592571150095 = t ∧
      t + t / 256 < 18446744073709551616 ∧ (t + t / 256) + (t + t / 256) / 65536 < 18446744073709551616 ∧
      ((t + t / 256) + (t + t / 256) / 65536) + ((t + t / 256) + (t + t / 256) / 65536) / 4294967296 < 9223372036854775808 ∧
      (((t + t / 256) + (t + t / 256) / 65536) + ((t + t / 256) + (t + t / 256) / 65536) / 4294967296) % 128 = pop 64 x := by
  refine ⟨s1 32 x, s2 16 x, s3 8 x, ?_, s1_lt 32 x, ?_, ?_, ?_, ?_⟩
  · rw [← mask1]; exact st1 32 x
  · rw [← mask2]; exact st2 16 x
  · have h2 : s2 16 x / 16 + s2 16 x < 18446744073709551616 := by
      have e : s2 16 x = (x % 2 + x / 2 % 2 + x / 4 % 2 + x / 8 % 2) + 16 * s2 15 (x / 16) := rfl
      have key : ∀ n x, s2 n x * 15 ≤ 4 * (16 ^ n - 1) := by
        intro n
        induction n with
        | zero => intro x; simp [s2]
        | succ n ih =>
          intro x
          have := ih (x / 16)
          have p : 0 < 16 ^ n := Nat.pow_pos (by omega)
          simp only [s2, Nat.pow_succ]; omega
      have := key 16 x
      omega
    exact h2
  · rw [← mask3]; exact st3 8 x
  · obtain ⟨a, b, c, d, e, f, g, h, ha, hb, hc, hd, he, hf, hg, hh, hp, hs⟩ := s3_end x
    rw [hp]
    exact ones_end a b c d e f g h ha hb hc hd he hf hg hh _ (by rw [hs])

end Go.Proofs.Ytghgmfnebiicgaa.Pop
