/- NumTwice, walked: doubled some times and then some more is doubled as often as both together: of any numbers the law answers true. -/
import Derived.Test.YtghgmfnebiicgaaPNumTwicex1
import Derived.Test.YtghgmfnebiicgaaNumAid
import Derived.Deep.DrawnRows
namespace Go.Proofs.Ytghgmfnebiicgaa.Twice
open Go.RowKit Go.Proofs.Ytghgmfnebiicgaa.PNumTwice Go.Proofs.YtghgmfnebiicgaaW.PrintWords Go.Proofs.YtghgmfnebiicgaaW.PrintLast Go.Proofs.YtghgmfnebiicgaaW.PrintMore Go.Proofs.Ytghgmfnebiicgaa.Aid

theorem NumTwice_loop (most : Int) (hm : most ≤ 9223372036854775807) (T : Int) (hT : T ≤ 64) (d : Nat) : ∀ (k : Nat) (n i : Int), 0 ≤ n → n ≤ most → 0 ≤ i → T - i = d → d < k →
    num_Double.l0 k n most T i = some (dbl d n most) := by
  induction d with
  | zero =>
    intro k n i h0 h1 hi hd hk
    obtain ⟨k, rfl⟩ : ∃ m, k = m + 1 := ⟨k - 1, by omega⟩
    simp only [num_Double.l0, dbl]
    rw [if_neg (by omega)]
    unfold mn; rw [if_neg (by omega)]
  | succ d ih =>
    intro k n i h0 h1 hi hd hk
    obtain ⟨k, rfl⟩ : ∃ m, k = m + 1 := ⟨k - 1, by omega⟩
    simp only [num_Double.l0, dbl]
    rw [if_pos (by omega), w64 (n := most - n) (by omega) (by omega)]
    by_cases h : 2 * n > most
    · rw [if_pos (by omega), if_pos h]
    · rw [if_neg (by omega), if_neg h, w64 (n := n + n) (by omega) (by omega), w64 (n := i + 1) (by omega) (by omega), show n + n = 2 * n by omega]
      exact ih _ _ _ (by omega) (by omega) (by omega) (by omega) (by omega)

theorem NumTwice_double (n times most : Int) (hn : n ≤ 9223372036854775807) (hm : most ≤ 9223372036854775807) (k : Nat) (hk : 64 < k) : num_Double.f k n times most = some (Dbl n times most) := by
  unfold num_Double.f Dbl
  simp only [show ∀ x, mx x 0 = (if x < 0 then 0 else x) from fun x => rfl]
  generalize hn' : (if n < 0 then 0 else n) = n'
  generalize hm' : (if most < 0 then 0 else most) = m'
  have a0 : 0 ≤ n' ∧ n' ≤ 9223372036854775807 := by subst hn'; split <;> omega
  have a1 : 0 ≤ m' ∧ m' ≤ 9223372036854775807 := by subst hm'; split <;> omega
  have a2 : ∃ T : Nat, mn (if times < 0 then 0 else times) 64 = T ∧ T ≤ 64 ∧ (T < 64 → (if times < 0 then 0 else times.toNat) = T) ∧ (T = 64 → 64 ≤ (if times < 0 then 0 else times.toNat)) := by
    refine ⟨(mn (if times < 0 then 0 else times) 64).toNat, ?_, ?_, ?_, ?_⟩ <;> unfold mn <;> (repeat' split) <;> omega
  obtain ⟨T, e, hT, s1, s2⟩ := a2
  rw [e]
  by_cases h : n' > m'
  · rw [if_pos h]
    obtain ⟨k, rfl⟩ : ∃ m, k = m + 1 := ⟨k - 1, by omega⟩
    simp only [num_Double.l0]
    rw [w64 (n := m' - n') (by omega) (by omega)]
    by_cases hz : (0 : Int) < T
    · rw [if_pos hz, if_pos (by omega)]
    · rw [if_neg hz]; unfold mn; rw [if_pos (by omega)]
  · rw [if_neg h, NumTwice_loop m' a1.2 T (by omega) T k n' 0 a0.1 (by omega) (by omega) (by omega) (by omega)]
    by_cases ht : T = 64
    · rw [dbl_stable T (if times < 0 then 0 else times.toNat) n' m' a0.1 (by omega) a1.2 (by omega) (by have := s2 ht; omega)]
    · rw [s1 (by omega)]

theorem dbl_twice (n m a b : Int) (ha : 0 ≤ a) (hb : 0 ≤ b) : Dbl (Dbl n a m) b m = Dbl n (a + b) m := by
  unfold Dbl
  simp only []
  generalize hn : (if n < 0 then 0 else n) = n'
  generalize hm : (if m < 0 then 0 else m) = m'
  have n0 : 0 ≤ n' := by subst hn; split <;> omega
  have m0 : 0 ≤ m' := by subst hm; split <;> omega
  rw [if_neg (show ¬ a < 0 by omega), if_neg (show ¬ b < 0 by omega), if_neg (show ¬ a + b < 0 by omega)]
  by_cases h : n' > m'
  · rw [if_pos h, if_pos h, if_neg (show ¬ m' < 0 by omega), if_neg (show ¬ m' > m' by omega), dbl_top _ _ m0]
  · have q := dbl_bounds a.toNat n' m' n0 (by omega)
    rw [if_neg h, if_neg h, if_neg (show ¬ dbl a.toNat n' m' < 0 by omega), if_neg (show ¬ dbl a.toNat n' m' > m' by omega), dbl_add _ _ _ _ n0 (by omega), show (a + b).toNat = a.toNat + b.toNat by omega]

theorem Dbl_le (n a m : Int) (hm : m ≤ 9223372036854775807) : Dbl n a m ≤ 9223372036854775807 := by
  unfold Dbl
  simp only []
  generalize hn : (if n < 0 then 0 else n) = n'
  generalize hm' : (if m < 0 then 0 else m) = m'
  have n0 : 0 ≤ n' := by subst hn; split <;> omega
  have m0 : 0 ≤ m' ∧ m' ≤ 9223372036854775807 := by subst hm'; split <;> omega
  by_cases h : n' > m'
  · rw [if_pos h]; omega
  · rw [if_neg h]; have q := dbl_bounds (if a < 0 then 0 else a.toNat) n' m' n0 (by omega); omega

/-- A number is told, and what was there is as it was. -/
def RI (n : Int) (w : World) (e : Ending) (w' : World) : Prop := e = .returned (.int .i64 n) ∧ Below w.heap.size w w'
def RB (b : Bool) (w : World) (e : Ending) (w' : World) : Prop := e = .returned (.bool b) ∧ Below w.heap.size w w'

theorem double_any (n t m : Int) (hn : n ≤ 9223372036854775807) (hm : m ≤ 9223372036854775807) (w : World) : Calls Try.prog 41 #[.int .i64 n, .int .i64 t, .int .i64 m] w (RI (Dbl n t m) w) :=
  num_Double.calls 70 n t m _ w (NumTwice_double n t m hn hm 70 (by omega))
theorem awake_any (w : World) : Calls Try.prog 33 #[] w (RB true w) :=
  jetonlaw01_awake.calls 80 true w (by kernel_rfl)
def cl (x : Int) : Int := if x < 0 then 0 else if x > 100 then 100 else x
theorem cl_bounds (x : Int) : 0 ≤ cl x ∧ cl x ≤ 100 := by unfold cl; (repeat' split) <;> omega
theorem clamp_any (x : Int) (w : World) : Calls Try.prog 35 #[.int .i64 x, .int .i64 0, .int .i64 100] w (RI (cl x) w) := by
  refine (jetonref01_Clamp.calls 2 x 0 100 (cl x) w ?_).mono fun e w' ⟨he, hw⟩ => ⟨he, hw.below⟩
  simp only [jetonref01_Clamp.f, jetonref01_Clamp.j0, cl]
  rw [if_neg (by omega)]
  by_cases h : x < 0
  · rw [decide_eq_true h, if_pos rfl, if_pos h]
  · rw [decide_eq_false h, if_neg (by simp), if_neg h]; split <;> rfl

theorem bl_alloc {w W : World} (h : Below w.heap.size w W) (o : Obj) : Below w.heap.size w (W.alloc o) := h.alloc h.size o
theorem bl_drew {w W : World} (h : Below w.heap.size w W) : Below w.heap.size w W.drew := h.drew
theorem bcell {W w1 : World} (hb : Below W.heap.size W w1) : (∀ b o, b < W.heap.size → w1.cell? ⟨b, o, none⟩ = W.cell? ⟨b, o, none⟩) ∧ (∀ b o, b < W.heap.size → w1.frozen? ⟨b, o, none⟩ = W.frozen? ⟨b, o, none⟩) :=
  ⟨fun b o h => hb.cell (p := ⟨b, o, none⟩) h, fun b o h => hb.frozen (p := ⟨b, o, none⟩) h⟩

set_option maxHeartbeats 4000000 in
set_option maxRecDepth 100000 in
theorem numTwice_any (n x0 x1 m : Int) (hn : n ≤ 9223372036854775807) (hm : m ≤ 9223372036854775807) (w : World) :
    Calls Try.prog 18 #[.int .i64 n, .agg #[.int .i64 x0, .int .i64 x1], .int .i64 m] w (RB true w) := by
  have b0 := cl_bounds x0
  have b1 := cl_bounds x1
  have fin := dbl_twice n m (cl x0) (cl x1) b0.1 b1.1
  have hd := Dbl_le n (cl x0) m hm
  have Fin := Aside0.mk fin
  clear fin
  obtain ⟨b00, b01⟩ := b0
  obtain ⟨b10, b11⟩ := b1
  go_enter Try.func18, Try.ntmps18
  go_wp2_with fail
  go_region_held3 (fun x => x.cell? ⟨w.heap.size, 0, none⟩ = some (.int .i64 x0) ∧ x.cell? ⟨w.heap.size, 1, none⟩ = some (.int .i64 x1) ∧ w.heap.size < x.heap.size ∧ Below w.heap.size w x)
    (first
      | (go_split_ands; refine ⟨?_, ?_, ?_, ?_⟩ <;> first | (rw [(bcell hb).1 _ _ (by omega)]; assumption) | (have := hb.size; omega) | exact Below.trans (by assumption) (hb.mono (by omega)))
      | (refine ⟨?_, ?_, ?_, ?_⟩ <;> first | (go_simp; done) | (simp; done) | (repeat (first | exact Below.refl _ _ | apply bl_alloc | apply bl_drew))))
    ((go_at_call 35; refine (clamp_any _ _).mono ?_; rintro e w' ⟨rfl, hb⟩))
  all_goals
    go_split_ands
    go_wp2_with (first
      | (go_at_call 33; refine (awake_any _).mono ?_; rintro e w' ⟨rfl, hb⟩; have hbw : Below w.heap.size w w' := Below.trans (by assumption) (hb.mono (by have := hb.size; omega)); have hz : w.heap.size < w'.heap.size := (by have := hb.size; omega); clear hb)
      | (go_at_call 41; refine (double_any _ _ _ (by assumption) (by assumption) _).mono ?_; rintro e w' ⟨rfl, hb⟩; have hbw : Below w.heap.size w w' := Below.trans (by assumption) (hb.mono (by have := hb.size; omega)); have hz : w.heap.size < w'.heap.size := (by have := hb.size; omega); clear hb))
    go_ret
    exact ⟨by rw [Fin.out]; simp, by assumption⟩
end Go.Proofs.Ytghgmfnebiicgaa.Twice
