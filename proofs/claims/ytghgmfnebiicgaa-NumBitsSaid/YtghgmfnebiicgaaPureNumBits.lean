/- num.Bit tells any bit of any number as the reference does, and num.Ones how many of the 64 are 1. No conditions. -/
import Derived.Test.YtghgmfnebiicgaaPNumBitsx1
import Derived.Test.YtghgmfnebiicgaaNumAid
import Derived.Test.YtghgmfnebiicgaaNumPop
namespace Go.Proofs.Ytghgmfnebiicgaa.Pure
open Go.RowKit Go.Proofs.Ytghgmfnebiicgaa.PNumBits Go.Proofs.YtghgmfnebiicgaaW.PrintWords Go.Proofs.YtghgmfnebiicgaaW.PrintLast Go.Proofs.YtghgmfnebiicgaaW.PrintMore Go.Proofs.Ytghgmfnebiicgaa.Aid Go.Proofs.Ytghgmfnebiicgaa.Pop

theorem NumBits_awake : jetonlaw01_awake.f 20 = some true := by kernel_rfl

theorem NumBits_wrap (n : Nat) (h : n < 18446744073709551616) : IntKind.u64.wrap (n : Int) = (n : Int) := by
  rw [IntKind.wrap_u64]; omega

theorem NumBits_and (x m : Nat) (hx : x < 18446744073709551616) (hm : m < 18446744073709551616) : bits .and .u64 (x : Int) (m : Int) = ((x &&& m : Nat) : Int) := u64_and_nat x m hx hm

theorem NumBits_count (x : Nat) (hx : x < 18446744073709551616) : bits_OnesCount64.f (x : Int) = some ((pop 64 x : Nat) : Int) := by
  obtain ⟨y, z, t, hy, by_, hz, bz, ht, b1, b2, b3, e⟩ := ones_nat x hx
  have zl : z ≤ z / 16 + z := Nat.le_add_left _ _
  have d2 : ((x : Int) / 2) = ((x / 2 : Nat) : Int) := by omega
  have hA : IntKind.u64.wrap (bits .and .u64 ((x : Int) / 2) 6148914691236517205 + bits .and .u64 (x : Int) 6148914691236517205) = (y : Int) := by
    rw [d2, show (6148914691236517205 : Int) = ((6148914691236517205 : Nat) : Int) from rfl, NumBits_and _ _ (by omega) (by omega), NumBits_and _ _ hx (by omega), ← Int.natCast_add, hy]
    exact NumBits_wrap y by_
  have d4 : ((y : Int) / 4) = ((y / 4 : Nat) : Int) := by omega
  have hB : IntKind.u64.wrap (bits .and .u64 ((y : Int) / 4) 3689348814741910323 + bits .and .u64 (y : Int) 3689348814741910323) = (z : Int) := by
    rw [d4, show (3689348814741910323 : Int) = ((3689348814741910323 : Nat) : Int) from rfl, NumBits_and _ _ (by omega) (by omega), NumBits_and _ _ by_ (by omega), ← Int.natCast_add, hz]
    exact NumBits_wrap z (by omega)
  have hC : bits .and .u64 (IntKind.u64.wrap (((z : Int) / 16) + (z : Int))) 1085102592571150095 = (t : Int) := by
    rw [show ((z : Int) / 16) + (z : Int) = ((z / 16 + z : Nat) : Int) by omega, NumBits_wrap _ bz, show (1085102592571150095 : Int) = ((1085102592571150095 : Nat) : Int) from rfl, NumBits_and _ _ bz (by omega), ht]
  have hD : IntKind.u64.wrap ((t : Int) + (t : Int) / 256) = ((t + t / 256 : Nat) : Int) := by
    rw [show (t : Int) + (t : Int) / 256 = ((t + t / 256 : Nat) : Int) by omega]; exact NumBits_wrap _ b1
  unfold bits_OnesCount64.f
  rw [hA, hB, hC, hD]
  generalize t + t / 256 = u at *
  have hE : IntKind.u64.wrap ((u : Int) + (u : Int) / 65536) = ((u + u / 65536 : Nat) : Int) := by
    rw [show (u : Int) + (u : Int) / 65536 = ((u + u / 65536 : Nat) : Int) by omega]; exact NumBits_wrap _ b2
  rw [hE]
  generalize u + u / 65536 = v at *
  rw [show (v : Int) + (v : Int) / 4294967296 = ((v + v / 4294967296 : Nat) : Int) by omega, NumBits_wrap _ (by omega), w64 (by omega) (by omega), i64_and127, ← e]
  rfl

/-- The bits of a number: its own, modulo 2^64. -/
theorem NumBits_bits (n : Int) : ∃ x : Nat, x < 18446744073709551616 ∧ IntKind.u64.wrap n = (x : Int) ∧ (x : Int) = n % 18446744073709551616 := by
  refine ⟨(n % 18446744073709551616).toNat, by omega, ?_, by omega⟩
  rw [IntKind.wrap_u64]; omega

theorem NumBits_bit (n at' : Int) (x : Nat) (hx : x < 18446744073709551616) (h : IntKind.u64.wrap n = (x : Int)) (h0 : 0 ≤ at') (h1 : at' ≤ 63) :
    num_Bit.f n at' = some (x / 2 ^ at'.toNat % 2 == 1) := by
  unfold num_Bit.f shr
  rw [if_pos h0, if_pos (by omega), if_pos h0, h, show IntKind.u64.bits = 64 from rfl, Nat.min_eq_left (by omega)]
  have e : (x : Int) / 2 ^ at'.toNat = ((x / 2 ^ at'.toNat : Nat) : Int) := by push_cast; rfl
  have l : x / 2 ^ at'.toNat ≤ x := Nat.div_le_self _ _
  rw [e, show (1 : Int) = ((1 : Nat) : Int) from rfl, NumBits_and _ _ (by omega) (by omega), Nat.and_one_is_mod]
  generalize x / 2 ^ at'.toNat % 2 = b
  congr 1
  rw [Bool.eq_iff_iff]; simp; omega

theorem NumBits_ref (at' : Int) (h1 : at' ≤ 63) (d : Nat) : ∀ (k x : Nat) (i : Int), x < 18446744073709551616 → 0 ≤ i → at' - i = d → d < k →
    jetonref01_Bit.l0 k at' (x : Int) i = some (x / 2 ^ d % 2 == 1) := by
  induction d with
  | zero =>
    intro k x i hx hi hd hk
    obtain ⟨k, rfl⟩ : ∃ m, k = m + 1 := ⟨k - 1, by omega⟩
    simp only [jetonref01_Bit.l0]
    rw [if_neg (by omega), Int.tmod_eq_emod_of_nonneg (by omega), Nat.pow_zero, Nat.div_one]
    congr 1
    rw [Bool.eq_iff_iff]; simp; omega
  | succ d ih =>
    intro k x i hx hi hd hk
    obtain ⟨k, rfl⟩ : ∃ m, k = m + 1 := ⟨k - 1, by omega⟩
    simp only [jetonref01_Bit.l0]
    rw [if_pos (by omega), Int.tdiv_eq_ediv_of_nonneg (by omega), show (x : Int) / 2 = ((x / 2 : Nat) : Int) by omega, NumBits_wrap _ (by omega), w64 (by omega) (by omega), ih k (x / 2) (i + 1) (by omega) (by omega) (by omega) (by omega),
      Nat.div_div_eq_div_mul, show 2 ^ (d + 1) = 2 * 2 ^ d by rw [Nat.pow_succ, Nat.mul_comm]]

theorem NumBits_ref_in (n at' : Int) (x : Nat) (hx : x < 18446744073709551616) (h : IntKind.u64.wrap n = (x : Int)) (h0 : 0 ≤ at') (h1 : at' ≤ 63) (k : Nat) (hk : 70 ≤ k) :
    jetonref01_Bit.f k n at' = some (x / 2 ^ at'.toNat % 2 == 1) := by
  obtain ⟨k, rfl⟩ : ∃ m, k = m + 1 := ⟨k - 1, by omega⟩
  unfold jetonref01_Bit.f
  rw [if_neg (by omega), decide_eq_false (by omega)]
  simp only [jetonref01_Bit.j0]
  rw [if_neg (by simp), h]
  exact NumBits_ref at' h1 at'.toNat k x 0 hx (by omega) (by omega) (by omega)

theorem NumBits_ref_out (n at' : Int) (h : at' < 0 ∨ 63 < at') (k : Nat) (hk : 70 ≤ k) : jetonref01_Bit.f k n at' = some false := by
  obtain ⟨k, rfl⟩ : ∃ m, k = m + 1 := ⟨k - 1, by omega⟩
  unfold jetonref01_Bit.f
  by_cases c : at' < 0
  · rw [if_pos c]; rfl
  · rw [if_neg c, decide_eq_true (by omega)]; rfl

theorem NumBits_end (n at' : Int) (x : Nat) (hx : x < 18446744073709551616) (h : IntKind.u64.wrap n = (x : Int)) (k : Nat) (hk : 70 ≤ k) (s : Nat) (hs : s = pop 64 x) :
    ((jetonlaw01_awake.f k).bind fun t112 => (if t112 = true then ((num_Bit.f n at').bind fun t113 => ((jetonref01_Bit.f k n at').bind fun t114 => (if (t113 == t114) = true then ((num_Ones.f n).bind fun t115 => (some (t115 == (s : Int)))) else (some false)))) else (some false))) = some true := by
  have ha : jetonlaw01_awake.f k = some true := at_rounds jetonlaw01_awake.mono (by omega) NumBits_awake
  have hb : ∃ b, num_Bit.f n at' = some b ∧ jetonref01_Bit.f k n at' = some b := by
    by_cases c : 0 ≤ at' ∧ at' ≤ 63
    · exact ⟨_, NumBits_bit n at' x hx h c.1 c.2, NumBits_ref_in n at' x hx h c.1 c.2 k hk⟩
    · refine ⟨false, ?_, NumBits_ref_out n at' (by omega) k hk⟩
      unfold num_Bit.f
      by_cases c0 : at' ≥ 0
      · rw [if_pos c0, if_neg (by omega)]
      · rw [if_neg c0]
  obtain ⟨b, h1, h2⟩ := hb
  rw [ha, h1, h2]
  unfold num_Ones.f
  rw [h, NumBits_count x hx, ← hs]
  simp

theorem NumBits_loop (n at' : Int) (x : Nat) (hx : x < 18446744073709551616) (h : IntKind.u64.wrap n = (x : Int)) (s : Nat) (hs : s = pop 64 x) (d : Nat) : ∀ (k c : Nat) (i : Int), 0 ≤ i → 64 - i = d → d + 80 < k → c ≤ i →
    s = c + pop d (x / 2 ^ i.toNat) → jetonlaw01_NumBits.l0 k n at' (c : Int) i = some true := by
  induction d with
  | zero =>
    intro k c i h0 hd hk hc hp
    obtain ⟨k, rfl⟩ : ∃ m, k = m + 1 := ⟨k - 1, by omega⟩
    simp only [jetonlaw01_NumBits.l0]
    rw [if_neg (by omega)]
    simp only [pop, Nat.add_zero] at hp
    rw [← hp]
    exact NumBits_end n at' x hx h k (by omega) s hs
  | succ d ih =>
    intro k c i h0 hd hk hc hp
    obtain ⟨k, rfl⟩ : ∃ m, k = m + 1 := ⟨k - 1, by omega⟩
    simp only [jetonlaw01_NumBits.l0]
    rw [if_pos (by omega), NumBits_ref_in n i x hx h h0 (by omega) k (by omega)]
    simp only [Option.bind_some]
    have e : x / 2 ^ i.toNat / 2 = x / 2 ^ (i + 1).toNat := by
      rw [Nat.div_div_eq_div_mul, show (i + 1).toNat = i.toNat + 1 by omega, Nat.pow_succ]
    simp only [pop] at hp
    rw [e] at hp
    have hb : x / 2 ^ i.toNat % 2 < 2 := Nat.mod_lt _ (by omega)
    generalize x / 2 ^ i.toNat % 2 = b at *
    rw [w64 (n := i + 1) (by omega) (by omega), w64 (n := (c : Int) + 1) (by omega) (by omega)]
    have hcase : b = 0 ∨ b = 1 := by omega
    rcases hcase with rfl | rfl
    · rw [if_neg (by decide)]
      exact ih k c (i + 1) (by omega) (by omega) (by omega) (by omega) (by omega)
    · rw [if_pos (by decide), show (c : Int) + 1 = ((c + 1 : Nat) : Int) by omega]
      exact ih k (c + 1) (i + 1) (by omega) (by omega) (by omega) (by omega) (by omega)

theorem NumBits : jetonlaw01_NumBits.Pure := by
  intro n at' _ _
  obtain ⟨x, hx, ex, _⟩ := NumBits_bits n
  exact ⟨200, NumBits_loop n at' x hx ex _ rfl 64 200 0 0 (by omega) (by omega) (by omega) (by omega) (by simp)⟩

end Go.Proofs.Ytghgmfnebiicgaa.Pure
