/- ProcEscalates, walked: of any wait, tries and more it answers true. -/
import Derived.Test.YtedfjadgfkbfiaaProcEsc
import Derived.Deep.LoopGhost
namespace Go.Proofs.Ytedfjadgfkbfiaa.ProcW
open Go.RowKit Go.Proofs.YtedfjadgfkbfiaaW.PrintWords Go.Proofs.YtedfjadgfkbfiaaW.PrintLast Go.Proofs.YtedfjadgfkbfiaaW.PrintMore Go.Proofs.Ytedfjadgfkbfiaa.Timer Go.Proofs.Ytedfjadgfkbfiaa.Aid
set_option linter.unusedVariables false

def RIw (n : Int) (w : World) (e : Ending) (w' : World) : Prop := e = .returned (.int .i64 n) ∧ Below w.heap.size w w'
theorem total_any (x : Int) (t : Nat) (b0 : 1 ≤ x) (b1 : x ≤ 64) (ht : t ≤ 8) (w : World) : Calls Try.prog 31 #[.int .i64 x, .int .i64 (t : Int)] w (RIw (x * (2 ^ (t + 1) - 1)) w) :=
  (PProcEscalates.jetonref07_Total.calls 20 x t _ w (ref_total x t b0 b1 ht)).mono fun e w' ⟨he, hw⟩ => ⟨he, by first | exact hw | exact hw.below⟩

set_option maxHeartbeats 4000000 in
set_option maxRecDepth 100000 in
theorem escalates_out (x t m : Int) (h : ¬ (1 ≤ x ∧ x ≤ 16 ∧ 0 ≤ t ∧ t ≤ 6)) (w : World) :
    Calls Try.prog 9 #[.int .i64 x, .int .i64 t, .int .i64 m] w (RB true w) := by
  have hc : x < 1 ∨ (1 ≤ x ∧ 16 < x) ∨ (1 ≤ x ∧ x ≤ 16 ∧ t < 0) ∨ (1 ≤ x ∧ x ≤ 16 ∧ 0 ≤ t ∧ 6 < t) := by omega
  clear h
  rcases hc with h1 | ⟨h1, h2⟩ | ⟨h1, h2, h3⟩ | ⟨h1, h2, h3, h4⟩
  all_goals
    go_enter Try.func9, Try.ntmps9
    go_wp2_with fail
    refine (awake_any _).mono ?_
    rintro e w1 ⟨rfl, hb⟩
    have B1 := Aside0.mk hb
    clear hb
    go_wp2_with fail
    refine (awake_any _).mono ?_
    rintro e w2 ⟨rfl, hb⟩
    have B2 := Aside0.mk (B1.out.trans (hb.mono B1.out.size))
    clear hb
    go_wp2
    go_ret
    exact ⟨rfl, B2.out⟩

set_option maxHeartbeats 4000000 in
set_option maxRecDepth 100000 in
theorem escalates_in (x m : Int) (t : Nat) (b0 : 1 ≤ x) (b1 : x ≤ 16) (ht : t ≤ 6) (w : World) :
    Calls Try.prog 9 #[.int .i64 x, .int .i64 (t : Int), .int .i64 m] w (RB true w) := by
  have bp := TimerTotal_pow_le x (t + 1) b0 (by omega) (by omega)
  have hst := esc_start (t := t) b0 (by omega) (by omega) 0 false 0
  have htot := fun w => total_any x t b0 (by omega) (by omega) w
  have en : x * (2 ^ (t + 1) - 1) = x * 2 ^ (t + 1) - x := by rw [Int.mul_sub, Int.mul_one]
  generalize hn : x * (2 ^ (t + 1) - 1) = n at *
  have bn : 0 ≤ n ∧ n ≤ 40000 := by
    have e2 : x * 2 ^ (t + 1) = 2 * (x * 2 ^ t) := by rw [Int.pow_succ, Int.mul_comm (2 ^ t) 2, ← Int.mul_assoc, Int.mul_comm x 2, Int.mul_assoc]
    have bq := TimerTotal_pow_le x t b0 (by omega) (by omega)
    have : 1 * x ≤ x * 2 ^ t := by
      have p : (1 : Int) ≤ 2 ^ t := by
        have : 0 < (2 : Int) ^ t := Int.pow_pos (by omega)
        omega
      have := Int.mul_le_mul_of_nonneg_left p (show 0 ≤ x by omega)
      omega
    omega
  obtain ⟨bn0, bn1⟩ := bn
  have Htot := Aside0.mk htot
  have Hst := Aside0.mk hst
  clear htot hst en hn bp
  have h16 : ¬ (16 < x) := by omega
  have h6 : ¬ ((6 : Int) < (t : Int)) := by omega
  have h0 : ¬ ((t : Int) < 0) := by omega
  have h1 : ¬ (x < 1) := by omega
  go_enter Try.func9, Try.ntmps9
  go_wp2_with fail
  refine (awake_any _).mono ?_
  rintro e w1 ⟨rfl, hb⟩
  have B1 := Aside0.mk hb
  clear hb
  go_wp2_with fail
  refine (new_any x t w _ B1.out).mono ?_
  rintro e w2 ⟨g, rfl, hs, hb1, -, -⟩
  have S2 := Aside0.mk hs
  have B2 := Aside0.mk hb1
  clear hs hb1
  go_wp2_with fail
  refine (issue_yes 0 false 0 S2.out B2.out rfl).mono ?_
  rintro e w3 ⟨rfl, hs, hb1, -⟩
  have S3 := Aside0.mk hs
  have B3 := Aside0.mk hb1
  clear hs hb1
  go_wp2_with fail
  refine (Htot.out _).mono ?_
  rintro e w4 ⟨rfl, hb⟩
  have S4 := Aside0.mk (S3.out.below hb)
  have B4 := Aside0.mk (B3.out.trans (hb.mono B3.out.size))
  clear hb
  go_wp2_with fail
  have hK0 := Int.tmod_nonneg 50 (wrap_u64_nonneg m)
  have hK1 := Int.tmod_lt_of_pos (IntKind.u64.wrap m) (show (0 : Int) < 50 by omega)
  generalize (IntKind.u64.wrap m).tmod 50 = K at *
  rw [w64 (n := K) (by omega) (by omega), w64 (n := n + K) (by omega) (by omega)]
  go_loopw [9, 48] (fun v9 v48 wr => ∃ (i again : Int) (s : P), v9 = .int .i64 again ∧ v48 = .int .i64 i ∧ 0 ≤ i ∧ i ≤ n + K ∧ Aside0 (Esc x t n i again s) ∧ Aside0 (s.at_ g w wr) ∧ Aside0 (Below w.heap.size w wr)) (fun _ v48 _ => (n + K - intOf v48).toNat)
  case atStart => exact ⟨0, 0, _, rfl, rfl, by omega, by omega, Hst, S4, B4⟩
  case round =>
    obtain ⟨i, again, s, rfl, rfl, hi0, hi1, E, S, B⟩ := hrel
    have ha := esc_again E.out
    obtain ⟨ha0, ha1⟩ := ha
    by_cases hlt : i < n + K
    · have hf := E.out.2.2.2.1
      have hz := E.out.1
      rcases esc_step b0 (by omega) (by omega) E.out with ⟨hc, hq, hE⟩ | ⟨hc, hq, hE⟩ | ⟨hc, hq, hE⟩ | ⟨hc, hq, hE⟩
      · have h := tick_yes hf S.out B.out hz
        rw [hq] at h
        have c1 : (i == n - 1) = false := beq_eq_false_iff_ne.2 (by omega)
        go_wp2_with fail
        refine h.mono ?_
        clear h
        rintro e w5 ⟨rfl, hs, hb1, -⟩
        have S5 := Aside0.mk hs
        have B5 := Aside0.mk hb1
        clear hs hb1
        go_wp2
        go_roundw
        case rel => exact ⟨i + 1, again, s.tick, by go_num, by go_num, by omega, by omega, ⟨hE⟩, S5, B5⟩
        case measure => simp [intOf]; omega
      · have h := tick_yes hf S.out B.out hz
        rw [hq] at h
        have c1 : (i == n - 1) = false := beq_eq_false_iff_ne.2 (by omega)
        go_wp2_with fail
        refine h.mono ?_
        clear h
        rintro e w5 ⟨rfl, hs, hb1, -⟩
        have S5 := Aside0.mk hs
        have B5 := Aside0.mk hb1
        clear hs hb1
        go_wp2
        go_roundw
        case rel => exact ⟨i + 1, again + 1, s.tick, by go_num, by go_num, by omega, by omega, ⟨hE⟩, S5, B5⟩
        case measure => simp [intOf]; omega
      · have h := tick_yes hf S.out B.out hz
        rw [hq] at h
        have c1 : (i == n - 1) = true := beq_iff_eq.2 (by omega)
        have c2 : ¬ (n ≤ i) := by omega
        have HC := Aside0.mk hc
        clear hc
        go_wp2_with fail
        refine h.mono ?_
        clear h
        rintro e w5 ⟨rfl, hs, hb1, -⟩
        have S5 := Aside0.mk hs
        have B5 := Aside0.mk hb1
        clear hs hb1
        go_wp2
        go_roundw
        case rel => exact ⟨i + 1, again, s.tick, by go_num, by go_num, by omega, by omega, ⟨hE⟩, S5, B5⟩
        case measure => simp [intOf]; omega
      · have h := tick_yes hf S.out B.out hz
        rw [hq] at h
        have c1 : (i == n - 1) = false := beq_eq_false_iff_ne.2 (by omega)
        go_wp2_with fail
        refine h.mono ?_
        clear h
        rintro e w5 ⟨rfl, hs, hb1, -⟩
        have S5 := Aside0.mk hs
        have B5 := Aside0.mk hb1
        clear hs hb1
        go_wp2
        go_roundw
        case rel => exact ⟨i + 1, again, s.tick, by go_num, by go_num, by omega, by omega, ⟨hE⟩, S5, B5⟩
        case measure => simp [intOf]; omega
    · have he := esc_end b0 (by omega) (by omega) E.out (by omega)
      have c3 : (again == (t : Int)) = true := beq_iff_eq.2 he
      have B' := B
      clear he
      go_wp2
      go_ret
      exact ⟨by simp_all, B'.out⟩

theorem escalates_any (x y m : Int) (w : World) : Calls Try.prog 9 #[.int .i64 x, .int .i64 y, .int .i64 m] w (RB true w) := by
  by_cases h : 1 ≤ x ∧ x ≤ 16 ∧ 0 ≤ y ∧ y ≤ 6
  · obtain ⟨t, rfl⟩ : ∃ t : Nat, y = t := ⟨y.toNat, by omega⟩
    exact escalates_in x m t h.1 h.2.1 (by omega) w
  · exact escalates_out x y m h w
end Go.Proofs.Ytedfjadgfkbfiaa.ProcW
