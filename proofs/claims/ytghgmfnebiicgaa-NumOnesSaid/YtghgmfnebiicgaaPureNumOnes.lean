/- The bits that are 1 of a number and of its opposite, bit by bit, are 64 together, and each bit is 1 in just one of both. No conditions. -/
import Derived.Test.YtghgmfnebiicgaaPNumOnesx1
import Derived.Test.YtghgmfnebiicgaaNumAid
import Derived.Test.YtghgmfnebiicgaaNumPop
namespace Go.Proofs.Ytghgmfnebiicgaa.Pure
open Go.RowKit Go.Proofs.Ytghgmfnebiicgaa.PNumOnes Go.Proofs.YtghgmfnebiicgaaW.PrintWords Go.Proofs.YtghgmfnebiicgaaW.PrintLast Go.Proofs.YtghgmfnebiicgaaW.PrintMore Go.Proofs.Ytghgmfnebiicgaa.Aid Go.Proofs.Ytghgmfnebiicgaa.Pop

theorem NumOnes_awake : jetonlaw01_awake.f 20 = some true := by kernel_rfl

--BEGIN ONES
theorem NumOnes_wrap (n : Nat) (h : n < 18446744073709551616) : IntKind.u64.wrap (n : Int) = (n : Int) := by
  rw [IntKind.wrap_u64]; omega

theorem NumOnes_and (x m : Nat) (hx : x < 18446744073709551616) (hm : m < 18446744073709551616) : bits .and .u64 (x : Int) (m : Int) = ((x &&& m : Nat) : Int) := u64_and_nat x m hx hm

theorem NumOnes_count (x : Nat) (hx : x < 18446744073709551616) : bits_OnesCount64.f (x : Int) = some ((pop 64 x : Nat) : Int) := by
  obtain ⟨y, z, t, hy, by_, hz, bz, ht, b1, b2, b3, e⟩ := ones_nat x hx
  have zl : z ≤ z / 16 + z := Nat.le_add_left _ _
  have d2 : ((x : Int) / 2) = ((x / 2 : Nat) : Int) := by omega
  have hA : IntKind.u64.wrap (bits .and .u64 ((x : Int) / 2) 6148914691236517205 + bits .and .u64 (x : Int) 6148914691236517205) = (y : Int) := by
    rw [d2, show (6148914691236517205 : Int) = ((6148914691236517205 : Nat) : Int) from rfl, NumOnes_and _ _ (by omega) (by omega), NumOnes_and _ _ hx (by omega), ← Int.natCast_add, hy]
    exact NumOnes_wrap y by_
  have d4 : ((y : Int) / 4) = ((y / 4 : Nat) : Int) := by omega
  have hB : IntKind.u64.wrap (bits .and .u64 ((y : Int) / 4) 3689348814741910323 + bits .and .u64 (y : Int) 3689348814741910323) = (z : Int) := by
    rw [d4, show (3689348814741910323 : Int) = ((3689348814741910323 : Nat) : Int) from rfl, NumOnes_and _ _ (by omega) (by omega), NumOnes_and _ _ by_ (by omega), ← Int.natCast_add, hz]
    exact NumOnes_wrap z (by omega)
  have hC : bits .and .u64 (IntKind.u64.wrap (((z : Int) / 16) + (z : Int))) 1085102592571150095 = (t : Int) := by
    rw [show ((z : Int) / 16) + (z : Int) = ((z / 16 + z : Nat) : Int) by omega, NumOnes_wrap _ bz, show (1085102592571150095 : Int) = ((1085102592571150095 : Nat) : Int) from rfl, NumOnes_and _ _ bz (by omega), ht]
  have hD : IntKind.u64.wrap ((t : Int) + (t : Int) / 256) = ((t + t / 256 : Nat) : Int) := by
    rw [show (t : Int) + (t : Int) / 256 = ((t + t / 256 : Nat) : Int) by omega]; exact NumOnes_wrap _ b1
  unfold bits_OnesCount64.f
  rw [hA, hB, hC, hD]
  generalize t + t / 256 = u at *
  have hE : IntKind.u64.wrap ((u : Int) + (u : Int) / 65536) = ((u + u / 65536 : Nat) : Int) := by
    rw [show (u : Int) + (u : Int) / 65536 = ((u + u / 65536 : Nat) : Int) by omega]; exact NumOnes_wrap _ b2
  rw [hE]
  generalize u + u / 65536 = v at *
  rw [show (v : Int) + (v : Int) / 4294967296 = ((v + v / 4294967296 : Nat) : Int) by omega, NumOnes_wrap _ (by omega), w64 (by omega) (by omega), i64_and127, ← e]
  rfl

/-- The bits of a number: its own, modulo 2^64. -/
theorem NumOnes_bits (n : Int) : ∃ x : Nat, x < 18446744073709551616 ∧ IntKind.u64.wrap n = (x : Int) ∧ (x : Int) = n % 18446744073709551616 := by
  refine ⟨(n % 18446744073709551616).toNat, by omega, ?_, by omega⟩
  rw [IntKind.wrap_u64]; omega

theorem NumOnes_bit (n at' : Int) (x : Nat) (hx : x < 18446744073709551616) (h : IntKind.u64.wrap n = (x : Int)) (h0 : 0 ≤ at') (h1 : at' ≤ 63) :
    num_Bit.f n at' = some (x / 2 ^ at'.toNat % 2 == 1) := by
  unfold num_Bit.f shr
  rw [if_pos h0, if_pos (by omega), if_pos h0, h, show IntKind.u64.bits = 64 from rfl, Nat.min_eq_left (by omega)]
  have e : (x : Int) / 2 ^ at'.toNat = ((x / 2 ^ at'.toNat : Nat) : Int) := by push_cast; rfl
  have l : x / 2 ^ at'.toNat ≤ x := Nat.div_le_self _ _
  rw [e, show (1 : Int) = ((1 : Nat) : Int) from rfl, NumOnes_and _ _ (by omega) (by omega), Nat.and_one_is_mod]
  generalize x / 2 ^ at'.toNat % 2 = b
  congr 1
  rw [Bool.eq_iff_iff]; simp; omega
--END ONES

theorem opposite_bit (n : Nat) : ∀ x i : Nat, x < 2 ^ n → i < n → (2 ^ n - 1 - x) / 2 ^ i % 2 = 1 - x / 2 ^ i % 2 := by
  induction n with
  | zero => intro x i _ h; omega
  | succ n ih =>
    intro x i hx hi
    have e : 2 ^ (n + 1) = 2 * 2 ^ n := by rw [Nat.pow_succ, Nat.mul_comm]
    cases i with
    | zero => simp; omega
    | succ i =>
      have := ih (x / 2) i (by omega) (by omega)
      rw [show 2 ^ (i + 1) = 2 * 2 ^ i by rw [Nat.pow_succ, Nat.mul_comm], ← Nat.div_div_eq_div_mul, ← Nat.div_div_eq_div_mul, show (2 ^ (n + 1) - 1 - x) / 2 = 2 ^ n - 1 - x / 2 by omega]
      exact this

theorem opposite (n : Int) (h0 : -9223372036854775808 ≤ n) (h1 : n ≤ 9223372036854775807) : bits .xor .i64 (-1) n = -1 - n := by
  show IntKind.i64.wrap ((BitVec.ofInt 64 (-1) ^^^ BitVec.ofInt 64 n).toNat : Int) = _
  rw [show BitVec.ofInt 64 (-1) = BitVec.allOnes 64 from by decide, BitVec.allOnes_xor, BitVec.toNat_not, BitVec.toNat_ofInt, IntKind.wrap_i64]
  omega

theorem NumOnes : jetonlaw01_NumOnes.Pure := by
  intro n at' wn _
  have bn := wf64 wn
  refine ⟨20, ?_⟩
  obtain ⟨x, hx, ex, mx⟩ := NumOnes_bits n
  have ey : IntKind.u64.wrap (-1 - n) = ((18446744073709551615 - x : Nat) : Int) := by rw [IntKind.wrap_u64]; omega
  unfold jetonlaw01_NumOnes.f num_Ones.f
  rw [NumOnes_awake, opposite n bn.1 bn.2, ex, ey, NumOnes_count x hx, NumOnes_count _ (by omega)]
  have e64 : (2 : Nat) ^ 64 - 1 - x = 18446744073709551615 - x := congrArg (fun m => m - x) (show (2 : Nat) ^ 64 - 1 = 18446744073709551615 by decide)
  have hx64 : x < 2 ^ 64 := by omega
  have hs := pop_opposite 64 x hx64
  rw [e64] at hs
  have l1 := pop_le 64 x
  generalize pop 64 x = p at *
  generalize pop 64 (18446744073709551615 - x) = q at *
  rw [Option.bind_some, if_pos rfl, Option.bind_some, Option.bind_some, Option.bind_some, Option.bind_some, ← Int.natCast_add, hs, w64 (by omega) (by omega), if_pos (show ((64 : Nat) : Int) = 64 from rfl)]
  by_cases c0 : at' < 0
  · rw [if_pos c0]
  · by_cases c1 : at' > 63
    · rw [if_neg c0, if_pos c1]
    · rw [if_neg c0, if_neg c1, NumOnes_bit n at' x hx ex (by omega) (by omega), NumOnes_bit (-1 - n) at' _ (by omega) ey (by omega) (by omega)]
      have ho := opposite_bit 64 x at'.toNat hx64 (by omega)
      rw [e64] at ho
      rw [ho]
      simp only [Option.bind_some]
      have hb : x / 2 ^ at'.toNat % 2 < 2 := Nat.mod_lt _ (by omega)
      generalize x / 2 ^ at'.toNat % 2 = b at *
      have : b = 0 ∨ b = 1 := by omega
      rcases this with rfl | rfl <;> rfl

end Go.Proofs.Ytghgmfnebiicgaa.Pure
