-- PRINTED BY print.sh 35421559b90ae4d0a3588c463048766b98c2df88dd9212a6774a882060cdf62d: not written by this session
import Derived.Test.YtghgmfnebiicgaaPTimerTotalx0
import Derived.Test.YtghgmfnebiicgaaPTimerTotalx1
namespace Go.Proofs.Ytghgmfnebiicgaa.PTimerTotal
open Go.RowKit Go.Proofs.YtghgmfnebiicgaaW.PrintWords Go.Proofs.YtghgmfnebiicgaaW.PrintLast Go.Proofs.YtghgmfnebiicgaaW.PrintMore
attribute [local go_sem] max2_int min2_int max_two min_two max_three min_three max_four min_four   -- for this text's walks alone
set_option linter.unusedVariables false
set_option linter.unusedSimpArgs false

/-! ### jetonlaw07_TimerTotal: function 9 -/
mutual
def jetonlaw07_TimerTotal.j0 : Nat → Int → Int → Int → Bool → Option (Bool)
  | 0, _, _, _, _ => none
  | k + 1, x0, x1, x5, x37 => if x37 = true then ((jetonlaw07_awake.f k).bind fun t125 => (if t125 = true then ((jetonref07_Total.f k x0 x1).bind fun t126 => (some (x5 == t126))) else (some false))) else ((timer_Start.f x0).bind fun bt127 => (jetonlaw07_TimerTotal.l0 k x0 x1 x5 0 x5 0 bt127.1 bt127.2.1 bt127.2.2))
def jetonlaw07_TimerTotal.l0 : Nat → Int → Int → Int → Int → Int → Int → Int → Int → Bool → Option (Bool)
  | 0, _, _, _, _, _, _, _, _, _ => none
  | k + 1, x0, x1, x5, x7, x48, x49, x131000, x131001, x131002 => if x49 < x48 then ((timer_Tick.f k x131000 x131001 x131002 x0 x1).bind fun bt131 => (if bt131.2.2.2 = 1 then (if ((bt131.2.2.2 == 2) != (x49 == (wrap64 (x5 - 1)))) = true then (some false) else (if (bt131.2.2.1 != (x49 == (wrap64 (x5 - 1)))) = true then (some false) else (jetonlaw07_TimerTotal.l0 k x0 x1 x5 (wrap64 (x7 + 1)) x48 (wrap64 (x49 + 1)) bt131.1 bt131.2.1 bt131.2.2.1))) else (if ((bt131.2.2.2 == 2) != (x49 == (wrap64 (x5 - 1)))) = true then (some false) else (if (bt131.2.2.1 != (x49 == (wrap64 (x5 - 1)))) = true then (some false) else (jetonlaw07_TimerTotal.l0 k x0 x1 x5 x7 x48 (wrap64 (x49 + 1)) bt131.1 bt131.2.1 bt131.2.2.1))))) else (some (x7 == x1))
end
def jetonlaw07_TimerTotal.f (k : Nat) (a0 : Int) (a1 : Int) : Option (Bool) := (timer_Total.f a0 a1).bind fun t122 => ((jetonlaw07_awake.f k).bind fun t123 => (if t123 = true then ((jetonref07_Total.f k a0 a1).bind fun t124 => (if t122 = t124 then (if a0 < 1 then (jetonlaw07_TimerTotal.j0 k a0 a1 t122 true) else (if a0 > 64 then (jetonlaw07_TimerTotal.j0 k a0 a1 t122 true) else (if a1 < 0 then (jetonlaw07_TimerTotal.j0 k a0 a1 t122 true) else (jetonlaw07_TimerTotal.j0 k a0 a1 t122 (decide (a1 > 8)))))) else (jetonlaw07_TimerTotal.j0 k a0 a1 t122 true))) else (jetonlaw07_TimerTotal.j0 k a0 a1 t122 true)))
theorem jetonlaw07_TimerTotal.mono_l : ∀ k, (∀ y0 y1 y2 y3, LeO (jetonlaw07_TimerTotal.j0 k y0 y1 y2 y3) (jetonlaw07_TimerTotal.j0 (k + 1) y0 y1 y2 y3)) ∧ (∀ y0 y1 y2 y3 y4 y5 y6 y7 y8, LeO (jetonlaw07_TimerTotal.l0 k y0 y1 y2 y3 y4 y5 y6 y7 y8) (jetonlaw07_TimerTotal.l0 (k + 1) y0 y1 y2 y3 y4 y5 y6 y7 y8))
  | 0 => ⟨fun _ _ _ _ r h => by simp [jetonlaw07_TimerTotal.j0] at h, fun _ _ _ _ _ _ _ _ _ r h => by simp [jetonlaw07_TimerTotal.l0] at h⟩
  | k + 1 => by
    obtain ⟨ih0, ih1⟩ := jetonlaw07_TimerTotal.mono_l k
    refine ⟨?_, ?_⟩
    · intro y0 y1 y2 y3
      unfold jetonlaw07_TimerTotal.j0
      repeat' first
      | (with_reducible exact ih0 _ _ _ _)
      | (with_reducible exact ih1 _ _ _ _ _ _ _ _ _)
      | (with_reducible exact jetonlaw07_awake.mono _)
      | (with_reducible exact jetonref07_Total.mono _ _ _)
      | (with_reducible exact timer_Tick.mono _ _ _ _ _ _)
      | (with_reducible exact LeO.refl _)
      | (with_reducible exact LeO.none _)
      | (with_reducible refine LeO.ite ?_ ?_)
      | (with_reducible refine LeO.bind ?_ (fun _ => ?_))
      | exact ih0 _ _ _ _
      | exact ih1 _ _ _ _ _ _ _ _ _
      | exact jetonlaw07_awake.mono _
      | exact jetonref07_Total.mono _ _ _
      | exact timer_Tick.mono _ _ _ _ _ _
      | exact LeO.none _
      | refine LeO.ite ?_ ?_
      | refine LeO.bind ?_ (fun _ => ?_)
    · intro y0 y1 y2 y3 y4 y5 y6 y7 y8
      unfold jetonlaw07_TimerTotal.l0
      repeat' first
      | (with_reducible exact ih0 _ _ _ _)
      | (with_reducible exact ih1 _ _ _ _ _ _ _ _ _)
      | (with_reducible exact jetonlaw07_awake.mono _)
      | (with_reducible exact jetonref07_Total.mono _ _ _)
      | (with_reducible exact timer_Tick.mono _ _ _ _ _ _)
      | (with_reducible exact LeO.refl _)
      | (with_reducible exact LeO.none _)
      | (with_reducible refine LeO.ite ?_ ?_)
      | (with_reducible refine LeO.bind ?_ (fun _ => ?_))
      | exact ih0 _ _ _ _
      | exact ih1 _ _ _ _ _ _ _ _ _
      | exact jetonlaw07_awake.mono _
      | exact jetonref07_Total.mono _ _ _
      | exact timer_Tick.mono _ _ _ _ _ _
      | exact LeO.none _
      | refine LeO.ite ?_ ?_
      | refine LeO.bind ?_ (fun _ => ?_)
theorem jetonlaw07_TimerTotal.mono : ∀ a0 a1 k, LeO (jetonlaw07_TimerTotal.f k a0 a1) (jetonlaw07_TimerTotal.f (k + 1) a0 a1) := by
  intro a0 a1 k
  obtain ⟨ih0, ih1⟩ := jetonlaw07_TimerTotal.mono_l k
  unfold jetonlaw07_TimerTotal.f
  repeat' first
      | (with_reducible exact ih0 _ _ _ _)
      | (with_reducible exact ih1 _ _ _ _ _ _ _ _ _)
      | (with_reducible exact jetonlaw07_awake.mono _)
      | (with_reducible exact jetonref07_Total.mono _ _ _)
      | (with_reducible exact timer_Tick.mono _ _ _ _ _ _)
      | (with_reducible exact LeO.refl _)
      | (with_reducible exact LeO.none _)
      | (with_reducible refine LeO.ite ?_ ?_)
      | (with_reducible refine LeO.bind ?_ (fun _ => ?_))
      | exact ih0 _ _ _ _
      | exact ih1 _ _ _ _ _ _ _ _ _
      | exact jetonlaw07_awake.mono _
      | exact jetonref07_Total.mono _ _ _
      | exact timer_Tick.mono _ _ _ _ _ _
      | exact LeO.none _
      | refine LeO.ite ?_ ?_
      | refine LeO.bind ?_ (fun _ => ?_)
set_option maxHeartbeats 8000000 in
set_option maxRecDepth 100000 in
theorem jetonlaw07_TimerTotal.calls (k : Nat) (a0 : Int) (a1 : Int) (r : Bool) (w : World) (h : jetonlaw07_TimerTotal.f k a0 a1 = some r) :
    Calls Try.prog 9 #[.int .i64 a0, .int .i64 a1] w fun e w' => e = .returned (.bool r) ∧ Below w.heap.size w w' := by
  have hu38 := Try.underlying38
  have HB := Aside0.mk (Below.refl w.heap.size w)
  have H : ((timer_Total.f a0 a1).bind fun t122 => ((jetonlaw07_awake.f k).bind fun t123 => (if t123 = true then ((jetonref07_Total.f k a0 a1).bind fun t124 => (if t122 = t124 then (if a0 < 1 then (jetonlaw07_TimerTotal.j0 k a0 a1 t122 true) else (if a0 > 64 then (jetonlaw07_TimerTotal.j0 k a0 a1 t122 true) else (if a1 < 0 then (jetonlaw07_TimerTotal.j0 k a0 a1 t122 true) else (jetonlaw07_TimerTotal.j0 k a0 a1 t122 (decide (a1 > 8)))))) else (jetonlaw07_TimerTotal.j0 k a0 a1 t122 true))) else (jetonlaw07_TimerTotal.j0 k a0 a1 t122 true)))) = some r := h
  clear h
  replace H := Option.bind_eq_some_iff.mp H
  obtain ⟨t122, A30, H⟩ := H
  replace H : ((jetonlaw07_awake.f k).bind fun t123 => (if t123 = true then ((jetonref07_Total.f k a0 a1).bind fun t124 => (if t122 = t124 then (if a0 < 1 then (jetonlaw07_TimerTotal.j0 k a0 a1 t122 true) else (if a0 > 64 then (jetonlaw07_TimerTotal.j0 k a0 a1 t122 true) else (if a1 < 0 then (jetonlaw07_TimerTotal.j0 k a0 a1 t122 true) else (jetonlaw07_TimerTotal.j0 k a0 a1 t122 (decide (a1 > 8)))))) else (jetonlaw07_TimerTotal.j0 k a0 a1 t122 true))) else (jetonlaw07_TimerTotal.j0 k a0 a1 t122 true))) = some r := H
  have A3 := Aside0.mk A30
  clear A30
  have HC4 := Aside0.mk H
  clear H
  go_enter Try.func9, Try.ntmps9
  go_upto_region 2 with (first | ((with_reducible refine gate_callee (f := 31) rfl ?_); refine goesL_ (some 12) rfl rfl Try.func31 (by kernel_rfl) rfl #[.int .i64 a0, .int .i64 a1] rfl (by (try simp only [List.map_toArray, List.map_cons, List.map_nil]); first | done | rfl | (simp only [List.length_drop, List.length_take]; rfl)) ?_; (with_reducible refine (timer_Total.calls a0 a1 t122 _ A3.out).mono ?_); rintro e w5 ⟨rfl, hb⟩; refine ⟨_, rfl, ?_⟩; have n0_ := Aside0.mk (below_step (by repeat (first | (with_reducible first | exact HB.out | apply below_alloc | apply pw_below_drewN | apply below_drew1) | exact HB.out)) hb); clear HB; have HB := n0_; clear n0_; (try clear hb); (try clear hb2); (try clear hk); (try clear hi)))
  (try simp only [Act.put, List.setIfInBounds_toArray, List.set_cons_zero, List.set_cons_succ])
  go_cut [37] (fun v37 wc => ∃ (kq : Nat) (x37_3 : Bool), v37 = .bool x37_3 ∧ Aside0 (jetonlaw07_TimerTotal.j0 kq a0 a1 t122 x37_3 = some r) ∧ Aside0 (kq ≤ k) ∧ Aside0 (Below w.heap.size w wc))
  case first =>
    have H := HC4.out
    clear HC4
    replace H := Option.bind_eq_some_iff.mp H
    obtain ⟨t123, A60, H⟩ := H
    replace H : (if t123 = true then ((jetonref07_Total.f k a0 a1).bind fun t124 => (if t122 = t124 then (if a0 < 1 then (jetonlaw07_TimerTotal.j0 k a0 a1 t122 true) else (if a0 > 64 then (jetonlaw07_TimerTotal.j0 k a0 a1 t122 true) else (if a1 < 0 then (jetonlaw07_TimerTotal.j0 k a0 a1 t122 true) else (jetonlaw07_TimerTotal.j0 k a0 a1 t122 (decide (a1 > 8)))))) else (jetonlaw07_TimerTotal.j0 k a0 a1 t122 true))) else (jetonlaw07_TimerTotal.j0 k a0 a1 t122 true)) = some r := H
    have A6 := Aside0.mk A60
    clear A60
    by_cases c7 : t123 = true
    · subst c7
      have H1 : ((jetonref07_Total.f k a0 a1).bind fun t124 => (if t122 = t124 then (if a0 < 1 then (jetonlaw07_TimerTotal.j0 k a0 a1 t122 true) else (if a0 > 64 then (jetonlaw07_TimerTotal.j0 k a0 a1 t122 true) else (if a1 < 0 then (jetonlaw07_TimerTotal.j0 k a0 a1 t122 true) else (jetonlaw07_TimerTotal.j0 k a0 a1 t122 (decide (a1 > 8)))))) else (jetonlaw07_TimerTotal.j0 k a0 a1 t122 true))) = some r := by rw [if_pos rfl] at H; exact H
      clear H
      have H := H1
      clear H1
      replace H := Option.bind_eq_some_iff.mp H
      obtain ⟨t124, A80, H⟩ := H
      replace H : (if t122 = t124 then (if a0 < 1 then (jetonlaw07_TimerTotal.j0 k a0 a1 t122 true) else (if a0 > 64 then (jetonlaw07_TimerTotal.j0 k a0 a1 t122 true) else (if a1 < 0 then (jetonlaw07_TimerTotal.j0 k a0 a1 t122 true) else (jetonlaw07_TimerTotal.j0 k a0 a1 t122 (decide (a1 > 8)))))) else (jetonlaw07_TimerTotal.j0 k a0 a1 t122 true)) = some r := H
      have A8 := Aside0.mk A80
      clear A80
      by_cases c9 : t122 = t124
      · rw [if_pos c9] at H
        have c9b0 : (t122 == t124) = true := beq_iff_eq.mpr c9
        have c9b1 : (t122 != t124) = false := bne_eq_false_iff_eq.mpr c9
        clear c9
        (first | rw [c9b0] | (simp only [i64_w, i32_w]; rw [c9b0]) | skip)
        by_cases c10 : a0 < 1
        · rw [if_pos c10] at H
          have c10b0 : decide (a0 < 1) = true := decide_eq_true c10
          clear c10
          have H' := Aside0.mk H
          clear H
          go_wp2_with (first | ((with_reducible refine gate_callee (f := 28) rfl ?_); refine goesL_ (some 13) rfl rfl Try.func28 (by kernel_rfl) rfl #[] rfl (by (try simp only [List.map_toArray, List.map_cons, List.map_nil]); first | done | rfl | (simp only [List.length_drop, List.length_take]; rfl)) ?_; (with_reducible refine (jetonlaw07_awake.calls k  true _ A6.out).mono ?_); rintro e w11 ⟨rfl, hb⟩; refine ⟨_, rfl, ?_⟩; have n0_ := Aside0.mk (below_step (by repeat (first | (with_reducible first | exact HB.out | apply below_alloc | apply pw_below_drewN | apply below_drew1) | exact HB.out)) hb); clear HB; have HB := n0_; clear n0_; (try clear hb); (try clear hb2); (try clear hk); (try clear hi)) | (go_at_call 32; (with_reducible refine (jetonref07_Total.calls k a0 a1 t124 _ A8.out).mono ?_); rintro e w' ⟨rfl, ⟨nd, rfl⟩⟩))
          go_meet
          case rel => exact ⟨_, (true), (by first | rfl | (simp; done) | (simp [*]; done)), H', ⟨by first | omega | exact Nat.le_refl _⟩, ⟨by repeat (first | (with_reducible first | exact HB.out | apply below_alloc | apply pw_below_drewN | apply below_drew1) | exact HB.out)⟩⟩
        · rw [if_neg c10] at H
          have c10b0 : decide (a0 < 1) = false := decide_eq_false c10
          clear c10
          by_cases c12 : a0 > 64
          · rw [if_pos c12] at H
            have c12b0 : decide (64 < a0) = true := decide_eq_true c12
            clear c12
            have H' := Aside0.mk H
            clear H
            go_wp2_with (first | ((with_reducible refine gate_callee (f := 28) rfl ?_); refine goesL_ (some 13) rfl rfl Try.func28 (by kernel_rfl) rfl #[] rfl (by (try simp only [List.map_toArray, List.map_cons, List.map_nil]); first | done | rfl | (simp only [List.length_drop, List.length_take]; rfl)) ?_; (with_reducible refine (jetonlaw07_awake.calls k  true _ A6.out).mono ?_); rintro e w13 ⟨rfl, hb⟩; refine ⟨_, rfl, ?_⟩; have n0_ := Aside0.mk (below_step (by repeat (first | (with_reducible first | exact HB.out | apply below_alloc | apply pw_below_drewN | apply below_drew1) | exact HB.out)) hb); clear HB; have HB := n0_; clear n0_; (try clear hb); (try clear hb2); (try clear hk); (try clear hi)) | (go_at_call 32; (with_reducible refine (jetonref07_Total.calls k a0 a1 t124 _ A8.out).mono ?_); rintro e w' ⟨rfl, ⟨nd, rfl⟩⟩))
            go_meet
            case rel => exact ⟨_, (true), (by first | rfl | (simp; done) | (simp [*]; done)), H', ⟨by first | omega | exact Nat.le_refl _⟩, ⟨by repeat (first | (with_reducible first | exact HB.out | apply below_alloc | apply pw_below_drewN | apply below_drew1) | exact HB.out)⟩⟩
          · rw [if_neg c12] at H
            have c12b0 : decide (64 < a0) = false := decide_eq_false c12
            clear c12
            by_cases c14 : a1 < 0
            · rw [if_pos c14] at H
              have c14b0 : decide (a1 < 0) = true := decide_eq_true c14
              clear c14
              have H' := Aside0.mk H
              clear H
              go_wp2_with (first | ((with_reducible refine gate_callee (f := 28) rfl ?_); refine goesL_ (some 13) rfl rfl Try.func28 (by kernel_rfl) rfl #[] rfl (by (try simp only [List.map_toArray, List.map_cons, List.map_nil]); first | done | rfl | (simp only [List.length_drop, List.length_take]; rfl)) ?_; (with_reducible refine (jetonlaw07_awake.calls k  true _ A6.out).mono ?_); rintro e w15 ⟨rfl, hb⟩; refine ⟨_, rfl, ?_⟩; have n0_ := Aside0.mk (below_step (by repeat (first | (with_reducible first | exact HB.out | apply below_alloc | apply pw_below_drewN | apply below_drew1) | exact HB.out)) hb); clear HB; have HB := n0_; clear n0_; (try clear hb); (try clear hb2); (try clear hk); (try clear hi)) | (go_at_call 32; (with_reducible refine (jetonref07_Total.calls k a0 a1 t124 _ A8.out).mono ?_); rintro e w' ⟨rfl, ⟨nd, rfl⟩⟩))
              go_meet
              case rel => exact ⟨_, (true), (by first | rfl | (simp; done) | (simp [*]; done)), H', ⟨by first | omega | exact Nat.le_refl _⟩, ⟨by repeat (first | (with_reducible first | exact HB.out | apply below_alloc | apply pw_below_drewN | apply below_drew1) | exact HB.out)⟩⟩
            · rw [if_neg c14] at H
              have c14b0 : decide (a1 < 0) = false := decide_eq_false c14
              clear c14
              have H' := Aside0.mk H
              clear H
              go_wp2_with (first | ((with_reducible refine gate_callee (f := 28) rfl ?_); refine goesL_ (some 13) rfl rfl Try.func28 (by kernel_rfl) rfl #[] rfl (by (try simp only [List.map_toArray, List.map_cons, List.map_nil]); first | done | rfl | (simp only [List.length_drop, List.length_take]; rfl)) ?_; (with_reducible refine (jetonlaw07_awake.calls k  true _ A6.out).mono ?_); rintro e w16 ⟨rfl, hb⟩; refine ⟨_, rfl, ?_⟩; have n0_ := Aside0.mk (below_step (by repeat (first | (with_reducible first | exact HB.out | apply below_alloc | apply pw_below_drewN | apply below_drew1) | exact HB.out)) hb); clear HB; have HB := n0_; clear n0_; (try clear hb); (try clear hb2); (try clear hk); (try clear hi)) | (go_at_call 32; (with_reducible refine (jetonref07_Total.calls k a0 a1 t124 _ A8.out).mono ?_); rintro e w' ⟨rfl, ⟨nd, rfl⟩⟩))
              go_meet
              case rel => exact ⟨_, (decide (a1 > 8)), (by first | rfl | (simp; done) | (simp [*]; done)), H', ⟨by first | omega | exact Nat.le_refl _⟩, ⟨by repeat (first | (with_reducible first | exact HB.out | apply below_alloc | apply pw_below_drewN | apply below_drew1) | exact HB.out)⟩⟩
      · rw [if_neg c9] at H
        have c9b0 : (t122 == t124) = false := beq_eq_false_iff_ne.mpr c9
        have c9b1 : (t122 != t124) = true := bne_iff_ne.mpr c9
        (first | rw [c9b0] | (simp only [i64_w, i32_w]; rw [c9b0]) | skip)
        have H' := Aside0.mk H
        clear H
        go_wp2_with (first | ((with_reducible refine gate_callee (f := 28) rfl ?_); refine goesL_ (some 13) rfl rfl Try.func28 (by kernel_rfl) rfl #[] rfl (by (try simp only [List.map_toArray, List.map_cons, List.map_nil]); first | done | rfl | (simp only [List.length_drop, List.length_take]; rfl)) ?_; (with_reducible refine (jetonlaw07_awake.calls k  true _ A6.out).mono ?_); rintro e w17 ⟨rfl, hb⟩; refine ⟨_, rfl, ?_⟩; have n0_ := Aside0.mk (below_step (by repeat (first | (with_reducible first | exact HB.out | apply below_alloc | apply pw_below_drewN | apply below_drew1) | exact HB.out)) hb); clear HB; have HB := n0_; clear n0_; (try clear hb); (try clear hb2); (try clear hk); (try clear hi)) | (go_at_call 32; (with_reducible refine (jetonref07_Total.calls k a0 a1 t124 _ A8.out).mono ?_); rintro e w' ⟨rfl, ⟨nd, rfl⟩⟩))
        go_meet
        case rel => exact ⟨_, (true), (by first | rfl | (simp; done) | (simp [*]; done)), H', ⟨by first | omega | exact Nat.le_refl _⟩, ⟨by repeat (first | (with_reducible first | exact HB.out | apply below_alloc | apply pw_below_drewN | apply below_drew1) | exact HB.out)⟩⟩
    · replace c7 := Bool.eq_false_iff.mpr c7
      subst c7
      have H1 : (jetonlaw07_TimerTotal.j0 k a0 a1 t122 true) = some r := by rw [if_neg (show ¬ (false = true) by decide)] at H; exact H
      clear H
      have H := H1
      clear H1
      have H' := Aside0.mk H
      clear H
      go_wp2_with (first | ((with_reducible refine gate_callee (f := 28) rfl ?_); refine goesL_ (some 13) rfl rfl Try.func28 (by kernel_rfl) rfl #[] rfl (by (try simp only [List.map_toArray, List.map_cons, List.map_nil]); first | done | rfl | (simp only [List.length_drop, List.length_take]; rfl)) ?_; (with_reducible refine (jetonlaw07_awake.calls k  false _ A6.out).mono ?_); rintro e w18 ⟨rfl, hb⟩; refine ⟨_, rfl, ?_⟩; have n0_ := Aside0.mk (below_step (by repeat (first | (with_reducible first | exact HB.out | apply below_alloc | apply pw_below_drewN | apply below_drew1) | exact HB.out)) hb); clear HB; have HB := n0_; clear n0_; (try clear hb); (try clear hb2); (try clear hk); (try clear hi)))
      go_meet
      case rel => exact ⟨_, (true), (by first | rfl | (simp; done) | (simp [*]; done)), H', ⟨by first | omega | exact Nat.le_refl _⟩, ⟨by repeat (first | (with_reducible first | exact HB.out | apply below_alloc | apply pw_below_drewN | apply below_drew1) | exact HB.out)⟩⟩
  case rest =>
    clear HC4
    try clear c1
    try clear c2
    try clear p2
    try clear c3
    try clear c7
    try clear c9
    try clear c9b0
    try clear c9b1
    try clear c10
    try clear c10b0
    try clear c12
    try clear c12b0
    try clear c14
    try clear c14b0
    obtain ⟨kq, x37_3, rfl, HA, HJ3, HB⟩ := hcut
    cases kq with
    | zero => exact absurd HA.out (by simp [jetonlaw07_TimerTotal.j0])
    | succ kj3 =>
      have H := HA.out
      clear HA
      simp only [jetonlaw07_TimerTotal.j0] at H
      by_cases c19 : x37_3 = true
      · subst c19
        have H1 : ((jetonlaw07_awake.f kj3).bind fun t125 => (if t125 = true then ((jetonref07_Total.f kj3 a0 a1).bind fun t126 => (some (t122 == t126))) else (some false))) = some r := by rw [if_pos rfl] at H; exact H
        clear H
        have H := H1
        clear H1
        replace H := Option.bind_eq_some_iff.mp H
        obtain ⟨t125, A200, H⟩ := H
        replace H : (if t125 = true then ((jetonref07_Total.f kj3 a0 a1).bind fun t126 => (some (t122 == t126))) else (some false)) = some r := H
        have A20 := Aside0.mk A200
        clear A200
        by_cases c21 : t125 = true
        · subst c21
          have H1 : ((jetonref07_Total.f kj3 a0 a1).bind fun t126 => (some (t122 == t126))) = some r := by rw [if_pos rfl] at H; exact H
          clear H
          have H := H1
          clear H1
          replace H := Option.bind_eq_some_iff.mp H
          obtain ⟨t126, A220, H⟩ := H
          replace H : (some (t122 == t126)) = some r := H
          have A22 := Aside0.mk A220
          clear A220
          obtain rfl := Option.some.inj H
          go_wp2_with (first | ((with_reducible refine gate_callee (f := 28) rfl ?_); refine goesL_ (some 38) rfl rfl Try.func28 (by kernel_rfl) rfl #[] rfl (by (try simp only [List.map_toArray, List.map_cons, List.map_nil]); first | done | rfl | (simp only [List.length_drop, List.length_take]; rfl)) ?_; (with_reducible refine (jetonlaw07_awake.calls kj3  true _ A20.out).mono ?_); rintro e w23 ⟨rfl, hb⟩; refine ⟨_, rfl, ?_⟩; have n0_ := Aside0.mk (below_step (by repeat (first | (with_reducible first | exact HB.out | apply below_alloc | apply pw_below_drewN | apply below_drew1) | exact HB.out)) hb); clear HB; have HB := n0_; clear n0_; (try clear hb); (try clear hb2); (try clear hk); (try clear hi)) | (go_at_call 32; (with_reducible refine (jetonref07_Total.calls kj3 a0 a1 t126 _ A22.out).mono ?_); rintro e w' ⟨rfl, ⟨nd, rfl⟩⟩))
          go_ret
          exact ⟨by first | rfl | (simp [errW_none, errW_some] <;> rfl) | (simp [*, errW_none, errW_some] <;> rfl), by repeat (first | (with_reducible first | exact HB.out | apply below_alloc | apply pw_below_drewN | apply below_drew1) | exact HB.out)⟩
        · replace c21 := Bool.eq_false_iff.mpr c21
          subst c21
          have H1 : (some false) = some r := by rw [if_neg (show ¬ (false = true) by decide)] at H; exact H
          clear H
          have H := H1
          clear H1
          obtain rfl := Option.some.inj H
          go_wp2_with (first | ((with_reducible refine gate_callee (f := 28) rfl ?_); refine goesL_ (some 38) rfl rfl Try.func28 (by kernel_rfl) rfl #[] rfl (by (try simp only [List.map_toArray, List.map_cons, List.map_nil]); first | done | rfl | (simp only [List.length_drop, List.length_take]; rfl)) ?_; (with_reducible refine (jetonlaw07_awake.calls kj3  false _ A20.out).mono ?_); rintro e w24 ⟨rfl, hb⟩; refine ⟨_, rfl, ?_⟩; have n0_ := Aside0.mk (below_step (by repeat (first | (with_reducible first | exact HB.out | apply below_alloc | apply pw_below_drewN | apply below_drew1) | exact HB.out)) hb); clear HB; have HB := n0_; clear n0_; (try clear hb); (try clear hb2); (try clear hk); (try clear hi)))
          go_ret
          exact ⟨by first | rfl | (simp [errW_none, errW_some] <;> rfl) | (simp [*, errW_none, errW_some] <;> rfl), by repeat (first | (with_reducible first | exact HB.out | apply below_alloc | apply pw_below_drewN | apply below_drew1) | exact HB.out)⟩
      · replace c19 := Bool.eq_false_iff.mpr c19
        subst c19
        have H1 : ((timer_Start.f a0).bind fun bt127 => (jetonlaw07_TimerTotal.l0 kj3 a0 a1 t122 0 t122 0 bt127.1 bt127.2.1 bt127.2.2)) = some r := by rw [if_neg (show ¬ (false = true) by decide)] at H; exact H
        clear H
        have H := H1
        clear H1
        replace H := Option.bind_eq_some_iff.mp H
        obtain ⟨⟨t127, t128, t129⟩, A250, H⟩ := H
        replace H : (jetonlaw07_TimerTotal.l0 kj3 a0 a1 t122 0 t122 0 t127 t128 t129) = some r := H
        have A25 := Aside0.mk A250
        clear A250
        have H' := Aside0.mk H
        clear H
        go_wp2_with (first | ((with_reducible refine gate_callee (f := 29) rfl ?_); refine goesL_ (some 47) rfl rfl Try.func29 (by kernel_rfl) rfl #[.int .i64 a0] rfl (by (try simp only [List.map_toArray, List.map_cons, List.map_nil]); first | done | rfl | (simp only [List.length_drop, List.length_take]; rfl)) ?_; (with_reducible refine (timer_Start.calls a0 t127 t128 t129 _ A25.out).mono ?_); rintro e w26 ⟨rfl, hb⟩; refine ⟨_, rfl, ?_⟩; have n0_ := Aside0.mk (below_step (by repeat (first | (with_reducible first | exact HB.out | apply below_alloc | apply pw_below_drewN | apply below_drew1) | exact HB.out)) hb); clear HB; have HB := n0_; clear n0_; (try clear hb); (try clear hb2); (try clear hk); (try clear hi)) | ((with_reducible refine gate_dst (N := 6) rfl ?_); refine box_event ?hg (N := 6) ?hd (cs := #[.int .i64 0, .int .i64 0, .bool false]) (t := 38) ?hr ?_; (case hd => rfl); (case hg => rfl); (case hr => first | (go_simp; done) | (go_simp; rfl)); intro gb130 hg w27 hbox hb; have n0_ := Aside0.mk (below_step (by repeat (first | (with_reducible first | exact HB.out | apply below_alloc | apply pw_below_drewN | apply below_drew1) | exact HB.out)) hb); have n1_ := Aside0.mk (hbox); have n2_ := Aside0.mk ((by rw [hg]; exact (below_size (by repeat (first | (with_reducible first | exact HB.out | apply below_alloc | apply pw_below_drewN | apply below_drew1) | exact HB.out))) : w.heap.size ≤ gb130)); have n3_ := Aside0.mk ((by rw [hg]; exact (below_size (by repeat (first | (with_reducible first | exact HB.out | apply below_alloc | apply pw_below_drewN | apply below_drew1) | exact HB.out))) : w.heap.size ≤ gb130)); clear HB; have HB := n0_; have BK130 := n1_; have GW130 := n2_; have GE130 := n3_; clear n0_ n1_ n2_ n3_; clear hb hbox hg; have hcz28_0 : w27.cell? ⟨gb130, 0, none⟩ = some (.int .i64 0) := (blk_cell BK130.out 0).trans rfl; have hcz28_1 : w27.cell? ⟨gb130, 1, none⟩ = some (.int .i64 0) := (blk_cell BK130.out 1).trans rfl; have hcz28_2 : w27.cell? ⟨gb130, 2, none⟩ = some (.bool false) := (blk_cell BK130.out 2).trans rfl; have hfz28_0 := blk_frozen BK130.out 0; have hfz28_1 := blk_frozen BK130.out 1; have hfz28_2 := blk_frozen BK130.out 2))
        go_loopg [7, 49] kj3 (fun kq v7 v49 w' => ∃ (x7_2 : Int) (x49_2 : Int) (x131000_2 : Int) (x131001_2 : Int) (x131002_2 : Bool), v7 = .int .i64 x7_2 ∧ v49 = .int .i64 x49_2 ∧ Aside0 (jetonlaw07_TimerTotal.l0 kq a0 a1 t122 x7_2 t122 x49_2 x131000_2 x131001_2 x131002_2 = some r) ∧ Aside0 (kq ≤ kj3) ∧ Aside0 (w'.heap[gb130]? = some (.cells #[.int .i64 x131000_2, .int .i64 x131001_2, .bool x131002_2] 38 (0, 0))) ∧ Aside0 (Below w.heap.size w w'))
        case atStart => exact ⟨(0), (0), (t127), (t128), (t129), (by first | rfl | (simp; done) | (simp [*]; done)), (by first | rfl | (simp; done) | (simp [*]; done)), H', ⟨Nat.le_refl _⟩, ⟨by (with_reducible repeat (first | refine blk_drewN ?_ _ | refine blk_drew ?_ | refine blk_alloc ?_ _)); refine blk_put (cs := #[.int .i64 t127, .int .i64 t128, .bool false]) ?_ 2 _ rfl; (with_reducible repeat (first | refine blk_drewN ?_ _ | refine blk_drew ?_ | refine blk_alloc ?_ _)); refine blk_put (cs := #[.int .i64 t127, .int .i64 0, .bool false]) ?_ 1 _ rfl; (with_reducible repeat (first | refine blk_drewN ?_ _ | refine blk_drew ?_ | refine blk_alloc ?_ _)); refine blk_put (cs := #[.int .i64 0, .int .i64 0, .bool false]) ?_ 0 _ rfl; (with_reducible repeat (first | refine blk_drewN ?_ _ | refine blk_drew ?_ | refine blk_alloc ?_ _)); exact BK130.out⟩, ⟨by repeat (first | (with_reducible first | exact HB.out | apply below_alloc | apply pw_below_drewN | apply below_drew1 | refine below_set ?_ GE130.out) | exact HB.out)⟩⟩
        case round =>
          clear H'
          try clear c1
          try clear c2
          try clear p2
          try clear c3
          try clear c7
          try clear c9
          try clear c9b0
          try clear c9b1
          try clear c10
          try clear c10b0
          try clear c12
          try clear c12b0
          try clear c14
          try clear c14b0
          try clear c19
          try clear c21
          try clear c28
          try clear hcz28_0
          try clear hcz28_1
          try clear hcz28_2
          try clear hfz28_0
          try clear hfz28_1
          try clear hfz28_2
          try clear p2
          obtain ⟨x7_2, x49_2, x131000_2, x131001_2, x131002_2, rfl, rfl, HA, HK2, BK130, HB⟩ := hrel
          cases gk with
          | zero => exact absurd HA.out (by simp [jetonlaw07_TimerTotal.l0])
          | succ k2 =>
            have H := HA.out
            clear HA
            simp only [jetonlaw07_TimerTotal.l0] at H
            by_cases c29 : x49_2 < t122
            · rw [if_pos c29] at H
              have c29b0 : decide (x49_2 < t122) = true := decide_eq_true c29
              clear c29
              replace H := Option.bind_eq_some_iff.mp H
              obtain ⟨⟨t131, t132, t133, t134⟩, A300, H⟩ := H
              replace H : (if t134 = 1 then (if ((t134 == 2) != (x49_2 == (wrap64 (t122 - 1)))) = true then (some false) else (if (t133 != (x49_2 == (wrap64 (t122 - 1)))) = true then (some false) else (jetonlaw07_TimerTotal.l0 k2 a0 a1 t122 (wrap64 (x7_2 + 1)) t122 (wrap64 (x49_2 + 1)) t131 t132 t133))) else (if ((t134 == 2) != (x49_2 == (wrap64 (t122 - 1)))) = true then (some false) else (if (t133 != (x49_2 == (wrap64 (t122 - 1)))) = true then (some false) else (jetonlaw07_TimerTotal.l0 k2 a0 a1 t122 x7_2 t122 (wrap64 (x49_2 + 1)) t131 t132 t133)))) = some r := H
              have A30 := Aside0.mk A300
              clear A300
              by_cases c31 : t134 = 1
              · rw [if_pos c31] at H
                have c31b0 : (t134 == 1) = true := beq_iff_eq.mpr c31
                have c31b1 : (t134 != 1) = false := bne_eq_false_iff_eq.mpr c31
                clear c31
                by_cases c32 : ((t134 == 2) != (x49_2 == (wrap64 (t122 - 1)))) = true
                · rw [if_pos c32] at H
                  have c32b0 : ((t134 == 2) != (x49_2 == (wrap64 (t122 - 1)))) = true := c32
                  (try (have c32b1 : decide ((t134 == 2) = (x49_2 == (wrap64 (t122 - 1)))) = false := by simpa using c32))
                  (try (have c32b2 : ((t134 == 2) == (x49_2 == (wrap64 (t122 - 1)))) = false := by simpa using c32))
                  (try (have c32b3 : ¬ ((t134 == 2) = (x49_2 == (wrap64 (t122 - 1)))) := by simpa using c32))
                  clear c32
                  obtain rfl := Option.some.inj H
                  have hcz33_0 : wr.cell? ⟨gb130, 0, none⟩ = some (.int .i64 x131000_2) := (blk_cell BK130.out 0).trans rfl
                  have hcz33_1 : wr.cell? ⟨gb130, 1, none⟩ = some (.int .i64 x131001_2) := (blk_cell BK130.out 1).trans rfl
                  have hcz33_2 : wr.cell? ⟨gb130, 2, none⟩ = some (.bool x131002_2) := (blk_cell BK130.out 2).trans rfl
                  have hfz33_0 := blk_frozen BK130.out 0
                  have hfz33_1 := blk_frozen BK130.out 1
                  have hfz33_2 := blk_frozen BK130.out 2
                  go_wp2_with (first | ((with_reducible refine gate_callee (f := 26) rfl ?_); refine goesL_ (some 56) rfl rfl Try.func26 (by kernel_rfl) rfl #[.agg #[.int .i64 x131000_2, .int .i64 x131001_2, .bool x131002_2], .int .i64 a0, .int .i64 a1] rfl (by (try simp only [List.map_toArray, List.map_cons, List.map_nil]); first | done | rfl | (simp only [List.length_drop, List.length_take]; rfl)) ?_; (with_reducible refine (timer_Tick.calls k2 x131000_2 x131001_2 x131002_2 a0 a1 t131 t132 t133 t134 _ A30.out).mono ?_); rintro e w34 ⟨rfl, hb⟩; refine ⟨_, rfl, ?_⟩; have n0_ := Aside0.mk (blk_below (g := gb130) (o := .cells #[.int .i64 x131000_2, .int .i64 x131001_2, .bool x131002_2] 38 (0, 0)) (by (with_reducible repeat (first | refine blk_drewN ?_ _ | refine blk_drew ?_ | refine blk_alloc ?_ _)); exact BK130.out) hb); have n1_ := Aside0.mk (below_step (by repeat (first | (with_reducible first | exact HB.out | apply below_alloc | apply pw_below_drewN | apply below_drew1 | refine below_set ?_ GE130.out) | exact HB.out)) hb); clear BK130; clear HB; have BK130 := n0_; have HB := n1_; clear n0_ n1_; (try clear hb); (try clear hb2); (try clear hk); (try clear hi); have hcz35_0 : w34.cell? ⟨gb130, 0, none⟩ = some (.int .i64 x131000_2) := (blk_cell BK130.out 0).trans rfl; have hcz35_1 : w34.cell? ⟨gb130, 1, none⟩ = some (.int .i64 x131001_2) := (blk_cell BK130.out 1).trans rfl; have hcz35_2 : w34.cell? ⟨gb130, 2, none⟩ = some (.bool x131002_2) := (blk_cell BK130.out 2).trans rfl; have hfz35_0 := blk_frozen BK130.out 0; have hfz35_1 := blk_frozen BK130.out 1; have hfz35_2 := blk_frozen BK130.out 2))
                  go_ret
                  exact ⟨by first | rfl | (simp [errW_none, errW_some] <;> rfl) | (simp [*, errW_none, errW_some] <;> rfl), by repeat (first | (with_reducible first | exact HB.out | apply below_alloc | apply pw_below_drewN | apply below_drew1 | refine below_set ?_ GE130.out) | exact HB.out)⟩
                · rw [if_neg c32] at H
                  have c32b0 : ((t134 == 2) != (x49_2 == (wrap64 (t122 - 1)))) = false := by simpa using c32
                  (try (have c32b1 : decide ((t134 == 2) = (x49_2 == (wrap64 (t122 - 1)))) = true := by simpa using c32))
                  (try (have c32b2 : ((t134 == 2) == (x49_2 == (wrap64 (t122 - 1)))) = true := by simpa using c32))
                  clear c32
                  by_cases c36 : (t133 != (x49_2 == (wrap64 (t122 - 1)))) = true
                  · rw [if_pos c36] at H
                    have c36b0 : (t133 != (x49_2 == (wrap64 (t122 - 1)))) = true := c36
                    (try (have c36b1 : decide (t133 = (x49_2 == (wrap64 (t122 - 1)))) = false := by simpa using c36))
                    (try (have c36b2 : (t133 == (x49_2 == (wrap64 (t122 - 1)))) = false := by simpa using c36))
                    (try (have c36b3 : ¬ (t133 = (x49_2 == (wrap64 (t122 - 1)))) := by simpa using c36))
                    clear c36
                    obtain rfl := Option.some.inj H
                    have hcz37_0 : wr.cell? ⟨gb130, 0, none⟩ = some (.int .i64 x131000_2) := (blk_cell BK130.out 0).trans rfl
                    have hcz37_1 : wr.cell? ⟨gb130, 1, none⟩ = some (.int .i64 x131001_2) := (blk_cell BK130.out 1).trans rfl
                    have hcz37_2 : wr.cell? ⟨gb130, 2, none⟩ = some (.bool x131002_2) := (blk_cell BK130.out 2).trans rfl
                    have hfz37_0 := blk_frozen BK130.out 0
                    have hfz37_1 := blk_frozen BK130.out 1
                    have hfz37_2 := blk_frozen BK130.out 2
                    go_wp2_with (first | ((with_reducible refine gate_callee (f := 26) rfl ?_); refine goesL_ (some 56) rfl rfl Try.func26 (by kernel_rfl) rfl #[.agg #[.int .i64 x131000_2, .int .i64 x131001_2, .bool x131002_2], .int .i64 a0, .int .i64 a1] rfl (by (try simp only [List.map_toArray, List.map_cons, List.map_nil]); first | done | rfl | (simp only [List.length_drop, List.length_take]; rfl)) ?_; (with_reducible refine (timer_Tick.calls k2 x131000_2 x131001_2 x131002_2 a0 a1 t131 t132 t133 t134 _ A30.out).mono ?_); rintro e w38 ⟨rfl, hb⟩; refine ⟨_, rfl, ?_⟩; have n0_ := Aside0.mk (blk_below (g := gb130) (o := .cells #[.int .i64 x131000_2, .int .i64 x131001_2, .bool x131002_2] 38 (0, 0)) (by (with_reducible repeat (first | refine blk_drewN ?_ _ | refine blk_drew ?_ | refine blk_alloc ?_ _)); exact BK130.out) hb); have n1_ := Aside0.mk (below_step (by repeat (first | (with_reducible first | exact HB.out | apply below_alloc | apply pw_below_drewN | apply below_drew1 | refine below_set ?_ GE130.out) | exact HB.out)) hb); clear BK130; clear HB; have BK130 := n0_; have HB := n1_; clear n0_ n1_; (try clear hb); (try clear hb2); (try clear hk); (try clear hi); have hcz39_0 : w38.cell? ⟨gb130, 0, none⟩ = some (.int .i64 x131000_2) := (blk_cell BK130.out 0).trans rfl; have hcz39_1 : w38.cell? ⟨gb130, 1, none⟩ = some (.int .i64 x131001_2) := (blk_cell BK130.out 1).trans rfl; have hcz39_2 : w38.cell? ⟨gb130, 2, none⟩ = some (.bool x131002_2) := (blk_cell BK130.out 2).trans rfl; have hfz39_0 := blk_frozen BK130.out 0; have hfz39_1 := blk_frozen BK130.out 1; have hfz39_2 := blk_frozen BK130.out 2))
                    go_ret
                    exact ⟨by first | rfl | (simp [errW_none, errW_some] <;> rfl) | (simp [*, errW_none, errW_some] <;> rfl), by repeat (first | (with_reducible first | exact HB.out | apply below_alloc | apply pw_below_drewN | apply below_drew1 | refine below_set ?_ GE130.out) | exact HB.out)⟩
                  · rw [if_neg c36] at H
                    have c36b0 : (t133 != (x49_2 == (wrap64 (t122 - 1)))) = false := by simpa using c36
                    (try (have c36b1 : decide (t133 = (x49_2 == (wrap64 (t122 - 1)))) = true := by simpa using c36))
                    (try (have c36b2 : (t133 == (x49_2 == (wrap64 (t122 - 1)))) = true := by simpa using c36))
                    clear c36
                    have H' := Aside0.mk H
                    clear H
                    have hcz40_0 : wr.cell? ⟨gb130, 0, none⟩ = some (.int .i64 x131000_2) := (blk_cell BK130.out 0).trans rfl
                    have hcz40_1 : wr.cell? ⟨gb130, 1, none⟩ = some (.int .i64 x131001_2) := (blk_cell BK130.out 1).trans rfl
                    have hcz40_2 : wr.cell? ⟨gb130, 2, none⟩ = some (.bool x131002_2) := (blk_cell BK130.out 2).trans rfl
                    have hfz40_0 := blk_frozen BK130.out 0
                    have hfz40_1 := blk_frozen BK130.out 1
                    have hfz40_2 := blk_frozen BK130.out 2
                    go_wp2_with (first | ((with_reducible refine gate_callee (f := 26) rfl ?_); refine goesL_ (some 56) rfl rfl Try.func26 (by kernel_rfl) rfl #[.agg #[.int .i64 x131000_2, .int .i64 x131001_2, .bool x131002_2], .int .i64 a0, .int .i64 a1] rfl (by (try simp only [List.map_toArray, List.map_cons, List.map_nil]); first | done | rfl | (simp only [List.length_drop, List.length_take]; rfl)) ?_; (with_reducible refine (timer_Tick.calls k2 x131000_2 x131001_2 x131002_2 a0 a1 t131 t132 t133 t134 _ A30.out).mono ?_); rintro e w41 ⟨rfl, hb⟩; refine ⟨_, rfl, ?_⟩; have n0_ := Aside0.mk (blk_below (g := gb130) (o := .cells #[.int .i64 x131000_2, .int .i64 x131001_2, .bool x131002_2] 38 (0, 0)) (by (with_reducible repeat (first | refine blk_drewN ?_ _ | refine blk_drew ?_ | refine blk_alloc ?_ _)); exact BK130.out) hb); have n1_ := Aside0.mk (below_step (by repeat (first | (with_reducible first | exact HB.out | apply below_alloc | apply pw_below_drewN | apply below_drew1 | refine below_set ?_ GE130.out) | exact HB.out)) hb); clear BK130; clear HB; have BK130 := n0_; have HB := n1_; clear n0_ n1_; (try clear hb); (try clear hb2); (try clear hk); (try clear hi); have hcz42_0 : w41.cell? ⟨gb130, 0, none⟩ = some (.int .i64 x131000_2) := (blk_cell BK130.out 0).trans rfl; have hcz42_1 : w41.cell? ⟨gb130, 1, none⟩ = some (.int .i64 x131001_2) := (blk_cell BK130.out 1).trans rfl; have hcz42_2 : w41.cell? ⟨gb130, 2, none⟩ = some (.bool x131002_2) := (blk_cell BK130.out 2).trans rfl; have hfz42_0 := blk_frozen BK130.out 0; have hfz42_1 := blk_frozen BK130.out 1; have hfz42_2 := blk_frozen BK130.out 2))
                    go_roundg k2
                    case measure => have := HJ3.out; have := HK2.out; omega
                    case rel => exact ⟨(wrap64 (x7_2 + 1)), (wrap64 (x49_2 + 1)), (t131), (t132), (t133), (by first | rfl | (simp; done) | (simp [*]; done)), (by first | rfl | (simp; done) | (simp [*]; done)), H', ⟨by have := HJ3.out; have := HK2.out; omega⟩, ⟨by (with_reducible repeat (first | refine blk_drewN ?_ _ | refine blk_drew ?_ | refine blk_alloc ?_ _)); refine blk_put (cs := #[.int .i64 t131, .int .i64 t132, .bool x131002_2]) ?_ 2 _ rfl; (with_reducible repeat (first | refine blk_drewN ?_ _ | refine blk_drew ?_ | refine blk_alloc ?_ _)); refine blk_put (cs := #[.int .i64 t131, .int .i64 x131001_2, .bool x131002_2]) ?_ 1 _ rfl; (with_reducible repeat (first | refine blk_drewN ?_ _ | refine blk_drew ?_ | refine blk_alloc ?_ _)); refine blk_put (cs := #[.int .i64 x131000_2, .int .i64 x131001_2, .bool x131002_2]) ?_ 0 _ rfl; (with_reducible repeat (first | refine blk_drewN ?_ _ | refine blk_drew ?_ | refine blk_alloc ?_ _)); exact BK130.out⟩, ⟨by repeat (first | (with_reducible first | exact HB.out | apply below_alloc | apply pw_below_drewN | apply below_drew1 | refine below_set ?_ GE130.out) | exact HB.out)⟩⟩
              · rw [if_neg c31] at H
                have c31b0 : (t134 == 1) = false := beq_eq_false_iff_ne.mpr c31
                have c31b1 : (t134 != 1) = true := bne_iff_ne.mpr c31
                by_cases c43 : ((t134 == 2) != (x49_2 == (wrap64 (t122 - 1)))) = true
                · rw [if_pos c43] at H
                  have c43b0 : ((t134 == 2) != (x49_2 == (wrap64 (t122 - 1)))) = true := c43
                  (try (have c43b1 : decide ((t134 == 2) = (x49_2 == (wrap64 (t122 - 1)))) = false := by simpa using c43))
                  (try (have c43b2 : ((t134 == 2) == (x49_2 == (wrap64 (t122 - 1)))) = false := by simpa using c43))
                  (try (have c43b3 : ¬ ((t134 == 2) = (x49_2 == (wrap64 (t122 - 1)))) := by simpa using c43))
                  clear c43
                  obtain rfl := Option.some.inj H
                  have hcz44_0 : wr.cell? ⟨gb130, 0, none⟩ = some (.int .i64 x131000_2) := (blk_cell BK130.out 0).trans rfl
                  have hcz44_1 : wr.cell? ⟨gb130, 1, none⟩ = some (.int .i64 x131001_2) := (blk_cell BK130.out 1).trans rfl
                  have hcz44_2 : wr.cell? ⟨gb130, 2, none⟩ = some (.bool x131002_2) := (blk_cell BK130.out 2).trans rfl
                  have hfz44_0 := blk_frozen BK130.out 0
                  have hfz44_1 := blk_frozen BK130.out 1
                  have hfz44_2 := blk_frozen BK130.out 2
                  go_wp2_with (first | ((with_reducible refine gate_callee (f := 26) rfl ?_); refine goesL_ (some 56) rfl rfl Try.func26 (by kernel_rfl) rfl #[.agg #[.int .i64 x131000_2, .int .i64 x131001_2, .bool x131002_2], .int .i64 a0, .int .i64 a1] rfl (by (try simp only [List.map_toArray, List.map_cons, List.map_nil]); first | done | rfl | (simp only [List.length_drop, List.length_take]; rfl)) ?_; (with_reducible refine (timer_Tick.calls k2 x131000_2 x131001_2 x131002_2 a0 a1 t131 t132 t133 t134 _ A30.out).mono ?_); rintro e w45 ⟨rfl, hb⟩; refine ⟨_, rfl, ?_⟩; have n0_ := Aside0.mk (blk_below (g := gb130) (o := .cells #[.int .i64 x131000_2, .int .i64 x131001_2, .bool x131002_2] 38 (0, 0)) (by (with_reducible repeat (first | refine blk_drewN ?_ _ | refine blk_drew ?_ | refine blk_alloc ?_ _)); exact BK130.out) hb); have n1_ := Aside0.mk (below_step (by repeat (first | (with_reducible first | exact HB.out | apply below_alloc | apply pw_below_drewN | apply below_drew1 | refine below_set ?_ GE130.out) | exact HB.out)) hb); clear BK130; clear HB; have BK130 := n0_; have HB := n1_; clear n0_ n1_; (try clear hb); (try clear hb2); (try clear hk); (try clear hi); have hcz46_0 : w45.cell? ⟨gb130, 0, none⟩ = some (.int .i64 x131000_2) := (blk_cell BK130.out 0).trans rfl; have hcz46_1 : w45.cell? ⟨gb130, 1, none⟩ = some (.int .i64 x131001_2) := (blk_cell BK130.out 1).trans rfl; have hcz46_2 : w45.cell? ⟨gb130, 2, none⟩ = some (.bool x131002_2) := (blk_cell BK130.out 2).trans rfl; have hfz46_0 := blk_frozen BK130.out 0; have hfz46_1 := blk_frozen BK130.out 1; have hfz46_2 := blk_frozen BK130.out 2))
                  go_ret
                  exact ⟨by first | rfl | (simp [errW_none, errW_some] <;> rfl) | (simp [*, errW_none, errW_some] <;> rfl), by repeat (first | (with_reducible first | exact HB.out | apply below_alloc | apply pw_below_drewN | apply below_drew1 | refine below_set ?_ GE130.out) | exact HB.out)⟩
                · rw [if_neg c43] at H
                  have c43b0 : ((t134 == 2) != (x49_2 == (wrap64 (t122 - 1)))) = false := by simpa using c43
                  (try (have c43b1 : decide ((t134 == 2) = (x49_2 == (wrap64 (t122 - 1)))) = true := by simpa using c43))
                  (try (have c43b2 : ((t134 == 2) == (x49_2 == (wrap64 (t122 - 1)))) = true := by simpa using c43))
                  clear c43
                  by_cases c47 : (t133 != (x49_2 == (wrap64 (t122 - 1)))) = true
                  · rw [if_pos c47] at H
                    have c47b0 : (t133 != (x49_2 == (wrap64 (t122 - 1)))) = true := c47
                    (try (have c47b1 : decide (t133 = (x49_2 == (wrap64 (t122 - 1)))) = false := by simpa using c47))
                    (try (have c47b2 : (t133 == (x49_2 == (wrap64 (t122 - 1)))) = false := by simpa using c47))
                    (try (have c47b3 : ¬ (t133 = (x49_2 == (wrap64 (t122 - 1)))) := by simpa using c47))
                    clear c47
                    obtain rfl := Option.some.inj H
                    have hcz48_0 : wr.cell? ⟨gb130, 0, none⟩ = some (.int .i64 x131000_2) := (blk_cell BK130.out 0).trans rfl
                    have hcz48_1 : wr.cell? ⟨gb130, 1, none⟩ = some (.int .i64 x131001_2) := (blk_cell BK130.out 1).trans rfl
                    have hcz48_2 : wr.cell? ⟨gb130, 2, none⟩ = some (.bool x131002_2) := (blk_cell BK130.out 2).trans rfl
                    have hfz48_0 := blk_frozen BK130.out 0
                    have hfz48_1 := blk_frozen BK130.out 1
                    have hfz48_2 := blk_frozen BK130.out 2
                    go_wp2_with (first | ((with_reducible refine gate_callee (f := 26) rfl ?_); refine goesL_ (some 56) rfl rfl Try.func26 (by kernel_rfl) rfl #[.agg #[.int .i64 x131000_2, .int .i64 x131001_2, .bool x131002_2], .int .i64 a0, .int .i64 a1] rfl (by (try simp only [List.map_toArray, List.map_cons, List.map_nil]); first | done | rfl | (simp only [List.length_drop, List.length_take]; rfl)) ?_; (with_reducible refine (timer_Tick.calls k2 x131000_2 x131001_2 x131002_2 a0 a1 t131 t132 t133 t134 _ A30.out).mono ?_); rintro e w49 ⟨rfl, hb⟩; refine ⟨_, rfl, ?_⟩; have n0_ := Aside0.mk (blk_below (g := gb130) (o := .cells #[.int .i64 x131000_2, .int .i64 x131001_2, .bool x131002_2] 38 (0, 0)) (by (with_reducible repeat (first | refine blk_drewN ?_ _ | refine blk_drew ?_ | refine blk_alloc ?_ _)); exact BK130.out) hb); have n1_ := Aside0.mk (below_step (by repeat (first | (with_reducible first | exact HB.out | apply below_alloc | apply pw_below_drewN | apply below_drew1 | refine below_set ?_ GE130.out) | exact HB.out)) hb); clear BK130; clear HB; have BK130 := n0_; have HB := n1_; clear n0_ n1_; (try clear hb); (try clear hb2); (try clear hk); (try clear hi); have hcz50_0 : w49.cell? ⟨gb130, 0, none⟩ = some (.int .i64 x131000_2) := (blk_cell BK130.out 0).trans rfl; have hcz50_1 : w49.cell? ⟨gb130, 1, none⟩ = some (.int .i64 x131001_2) := (blk_cell BK130.out 1).trans rfl; have hcz50_2 : w49.cell? ⟨gb130, 2, none⟩ = some (.bool x131002_2) := (blk_cell BK130.out 2).trans rfl; have hfz50_0 := blk_frozen BK130.out 0; have hfz50_1 := blk_frozen BK130.out 1; have hfz50_2 := blk_frozen BK130.out 2))
                    go_ret
                    exact ⟨by first | rfl | (simp [errW_none, errW_some] <;> rfl) | (simp [*, errW_none, errW_some] <;> rfl), by repeat (first | (with_reducible first | exact HB.out | apply below_alloc | apply pw_below_drewN | apply below_drew1 | refine below_set ?_ GE130.out) | exact HB.out)⟩
                  · rw [if_neg c47] at H
                    have c47b0 : (t133 != (x49_2 == (wrap64 (t122 - 1)))) = false := by simpa using c47
                    (try (have c47b1 : decide (t133 = (x49_2 == (wrap64 (t122 - 1)))) = true := by simpa using c47))
                    (try (have c47b2 : (t133 == (x49_2 == (wrap64 (t122 - 1)))) = true := by simpa using c47))
                    clear c47
                    have H' := Aside0.mk H
                    clear H
                    have hcz51_0 : wr.cell? ⟨gb130, 0, none⟩ = some (.int .i64 x131000_2) := (blk_cell BK130.out 0).trans rfl
                    have hcz51_1 : wr.cell? ⟨gb130, 1, none⟩ = some (.int .i64 x131001_2) := (blk_cell BK130.out 1).trans rfl
                    have hcz51_2 : wr.cell? ⟨gb130, 2, none⟩ = some (.bool x131002_2) := (blk_cell BK130.out 2).trans rfl
                    have hfz51_0 := blk_frozen BK130.out 0
                    have hfz51_1 := blk_frozen BK130.out 1
                    have hfz51_2 := blk_frozen BK130.out 2
                    go_wp2_with (first | ((with_reducible refine gate_callee (f := 26) rfl ?_); refine goesL_ (some 56) rfl rfl Try.func26 (by kernel_rfl) rfl #[.agg #[.int .i64 x131000_2, .int .i64 x131001_2, .bool x131002_2], .int .i64 a0, .int .i64 a1] rfl (by (try simp only [List.map_toArray, List.map_cons, List.map_nil]); first | done | rfl | (simp only [List.length_drop, List.length_take]; rfl)) ?_; (with_reducible refine (timer_Tick.calls k2 x131000_2 x131001_2 x131002_2 a0 a1 t131 t132 t133 t134 _ A30.out).mono ?_); rintro e w52 ⟨rfl, hb⟩; refine ⟨_, rfl, ?_⟩; have n0_ := Aside0.mk (blk_below (g := gb130) (o := .cells #[.int .i64 x131000_2, .int .i64 x131001_2, .bool x131002_2] 38 (0, 0)) (by (with_reducible repeat (first | refine blk_drewN ?_ _ | refine blk_drew ?_ | refine blk_alloc ?_ _)); exact BK130.out) hb); have n1_ := Aside0.mk (below_step (by repeat (first | (with_reducible first | exact HB.out | apply below_alloc | apply pw_below_drewN | apply below_drew1 | refine below_set ?_ GE130.out) | exact HB.out)) hb); clear BK130; clear HB; have BK130 := n0_; have HB := n1_; clear n0_ n1_; (try clear hb); (try clear hb2); (try clear hk); (try clear hi); have hcz53_0 : w52.cell? ⟨gb130, 0, none⟩ = some (.int .i64 x131000_2) := (blk_cell BK130.out 0).trans rfl; have hcz53_1 : w52.cell? ⟨gb130, 1, none⟩ = some (.int .i64 x131001_2) := (blk_cell BK130.out 1).trans rfl; have hcz53_2 : w52.cell? ⟨gb130, 2, none⟩ = some (.bool x131002_2) := (blk_cell BK130.out 2).trans rfl; have hfz53_0 := blk_frozen BK130.out 0; have hfz53_1 := blk_frozen BK130.out 1; have hfz53_2 := blk_frozen BK130.out 2))
                    go_roundg k2
                    case measure => have := HJ3.out; have := HK2.out; omega
                    case rel => exact ⟨(x7_2), (wrap64 (x49_2 + 1)), (t131), (t132), (t133), (by first | rfl | (simp; done) | (simp [*]; done)), (by first | rfl | (simp; done) | (simp [*]; done)), H', ⟨by have := HJ3.out; have := HK2.out; omega⟩, ⟨by (with_reducible repeat (first | refine blk_drewN ?_ _ | refine blk_drew ?_ | refine blk_alloc ?_ _)); refine blk_put (cs := #[.int .i64 t131, .int .i64 t132, .bool x131002_2]) ?_ 2 _ rfl; (with_reducible repeat (first | refine blk_drewN ?_ _ | refine blk_drew ?_ | refine blk_alloc ?_ _)); refine blk_put (cs := #[.int .i64 t131, .int .i64 x131001_2, .bool x131002_2]) ?_ 1 _ rfl; (with_reducible repeat (first | refine blk_drewN ?_ _ | refine blk_drew ?_ | refine blk_alloc ?_ _)); refine blk_put (cs := #[.int .i64 x131000_2, .int .i64 x131001_2, .bool x131002_2]) ?_ 0 _ rfl; (with_reducible repeat (first | refine blk_drewN ?_ _ | refine blk_drew ?_ | refine blk_alloc ?_ _)); exact BK130.out⟩, ⟨by repeat (first | (with_reducible first | exact HB.out | apply below_alloc | apply pw_below_drewN | apply below_drew1 | refine below_set ?_ GE130.out) | exact HB.out)⟩⟩
            · rw [if_neg c29] at H
              have c29b0 : decide (x49_2 < t122) = false := decide_eq_false c29
              clear c29
              obtain rfl := Option.some.inj H
              go_wp2
              go_ret
              exact ⟨by first | rfl | (simp [errW_none, errW_some] <;> rfl) | (simp [*, errW_none, errW_some] <;> rfl), by repeat (first | (with_reducible first | exact HB.out | apply below_alloc | apply pw_below_drewN | apply below_drew1 | refine below_set ?_ GE130.out) | exact HB.out)⟩

/-- THE ONE PURE STATEMENT of jetonlaw07_TimerTotal: yours. -/
def jetonlaw07_TimerTotal.Pure : Prop := ∀ (a0 : Int) (a1 : Int), (Lit.int .i64 a0).wf = true → (Lit.int .i64 a1).wf = true → ∃ k, jetonlaw07_TimerTotal.f k a0 a1 = some true
theorem jetonlaw07_TimerTotal.walk (P : jetonlaw07_TimerTotal.Pure) (a0 : Int) (a1 : Int) (w : World) (w0 : (Lit.int .i64 a0).wf = true) (w1 : (Lit.int .i64 a1).wf = true) :
    Calls Try.prog 9 #[.int .i64 a0, .int .i64 a1] w fun e w' => e = .returned (.bool true) ∧ Below w.heap.size w w' := by
  obtain ⟨k, h⟩ := P a0 a1 w0 w1
  refine (jetonlaw07_TimerTotal.calls k a0 a1 true w h).mono ?_
  rintro e w' ⟨rfl, hd⟩
  exact ⟨rfl, hd⟩

end Go.Proofs.Ytghgmfnebiicgaa.PTimerTotal
