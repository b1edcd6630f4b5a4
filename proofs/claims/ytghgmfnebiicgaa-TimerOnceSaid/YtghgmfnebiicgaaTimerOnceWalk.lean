/- TimerOnce, walked: of any timer and any waits it answers true. -/
import Derived.Test.YtghgmfnebiicgaaTimerWalks
import Derived.Deep.RegionHeld3
import Derived.Deep.LoopGhost
import Derived.Test.YtghgmfnebiicgaaWEqStruct
namespace Go.Proofs.Ytghgmfnebiicgaa.Timer
open Go.RowKit Go.Proofs.YtghgmfnebiicgaaW.PrintWords Go.Proofs.YtghgmfnebiicgaaW.PrintLast Go.Proofs.YtghgmfnebiicgaaW.PrintMore Go.Proofs.Ytghgmfnebiicgaa.Aid
theorem eqA38 (d : Nat) (w : World) (x0 y0 x1 y1 : Int) (x2 y2 : Bool) :
    (Op.equalIn (d + 2) 38 (.agg #[.int .i64 x0, .int .i64 x1, .bool x2]) (.agg #[.int .i64 y0, .int .i64 y1, .bool y2])).run Try.prog w = .ok (x0 == y0 && (x1 == y1 && (x2 == y2))) w := by
  refine eqA_of Try.underlying38 (by kernel_rfl) ?_
  refine eqf_cons (by rfl) (by go_simp; rfl) (by go_simp; rfl) (by go_simp) ?_
  refine eqf_cons (by rfl) (by go_simp; rfl) (by go_simp; rfl) (by go_simp) ?_
  exact eqf_last (by rfl) (by go_simp; rfl) (by go_simp; rfl) (by go_simp)

theorem tick_over (l t wt n : Int) : tL l t true wt n = l ∧ tT l t true n = t ∧ tO l t true n = true ∧ tW l t true n = 0 := ⟨rfl, rfl, rfl, rfl⟩
theorem tick_bounds (l t : Int) (o : Bool) (wt n : Int) (hl : -9223372036854775808 ≤ l ∧ l ≤ 9223372036854775807) (ht : -9223372036854775808 ≤ t ∧ t ≤ 9223372036854775807) (hn : n ≤ 9223372036854775807) :
    (-9223372036854775808 ≤ tL l t o wt n ∧ tL l t o wt n ≤ 9223372036854775807) ∧ (-9223372036854775808 ≤ tT l t o n ∧ tT l t o n ≤ 9223372036854775807) := by
  have hd := Dbl_le wt (t + 1) 1048576 (by omega)
  unfold tL tT
  simp only []
  constructor <;> (repeat' split) <;> omega
theorem tick_live (l t n : Int) : t ≤ tT l t false n ∧ (tO l t false n != (tW l t false n == 2)) = false := by
  unfold tT tO tW
  constructor
  · (repeat' split) <;> omega
  · (repeat' split) <;> simp_all

attribute [local go_sem high] eqA38
attribute [local go_sem] World.cell?_alloc_some
set_option maxHeartbeats 4000000 in
set_option maxRecDepth 100000 in
theorem timerOnce_any (l t : Int) (o : Bool) (A : Option Addr) (cap : Nat) (xs : List Int) (hl : -9223372036854775808 ≤ l ∧ l ≤ 9223372036854775807) (ht : -9223372036854775808 ≤ t ∧ t ≤ 9223372036854775807)
    (hx : ∀ x ∈ xs, (Lit.int .i64 x).wf = true) (w : World) (hr : ReadsInt w .i64 A xs.length xs) (hlen : xs.length ≤ 9223372036854775807) :
    Calls Try.prog 10 #[.agg #[.int .i64 l, .int .i64 t, .bool o], .slice A xs.length cap] w (RB true w) := by
  have Hl := Aside0.mk hl
  have Ht := Aside0.mk ht
  have Hx := Aside0.mk hx
  have Hr := Aside0.mk hr
  clear hl ht hx hr
  by_cases h300 : (300 : Int) < (xs.length : Int)
  · go_enter Try.func10, Try.ntmps10
    go_wp2_with (go_at_call 28; refine (awake_any _).mono ?_; rintro e w' ⟨rfl, hb⟩; (have hz : w.heap.size < w'.heap.size := (by have := hb.size; first | omega | (simp at this; omega)); have hbw : Below w.heap.size w w' := (Below.trans (by repeat (first | assumption | exact Below.refl _ _ | apply bl_alloc | apply bl_drew | (refine bl_setCell ?_ (by simp <;> omega) _))) (hb.mono (by first | omega | (simp; done) | (simp; omega)))); have g0 : w'.cell? ⟨w.heap.size, 0, none⟩ = some (.int .i64 l) := ((bcell hb).1 _ _ (by first | omega | (simp; done) | (simp; omega))).trans (by first | assumption | (go_simp; done) | (simp; done)); have g1 : w'.cell? ⟨w.heap.size, 1, none⟩ = some (.int .i64 t) := ((bcell hb).1 _ _ (by first | omega | (simp; done) | (simp; omega))).trans (by first | assumption | (go_simp; done) | (simp; done)); have g2 : w'.cell? ⟨w.heap.size, 2, none⟩ = some (.bool o) := ((bcell hb).1 _ _ (by first | omega | (simp; done) | (simp; omega))).trans (by first | assumption | (go_simp; done) | (simp; done)); have q0 : w'.frozen? ⟨w.heap.size, 0, none⟩ = false := ((bcell hb).2 _ _ (by first | omega | (simp; done) | (simp; omega))).trans (by first | assumption | (go_simp; done) | (simp; done)); have q1 : w'.frozen? ⟨w.heap.size, 1, none⟩ = false := ((bcell hb).2 _ _ (by first | omega | (simp; done) | (simp; omega))).trans (by first | assumption | (go_simp; done) | (simp; done)); have q2 : w'.frozen? ⟨w.heap.size, 2, none⟩ = false := ((bcell hb).2 _ _ (by first | omega | (simp; done) | (simp; omega))).trans (by first | assumption | (go_simp; done) | (simp; done)); clear hb))
    go_ret
    exact ⟨rfl, by assumption⟩
  · go_enter Try.func10, Try.ntmps10
    go_wp2_with fail
    refine (awake_any _).mono ?_
    rintro e w1 ⟨rfl, hb⟩
    (have hz : w.heap.size < w1.heap.size := (by have := hb.size; first | omega | (simp at this; omega)); have hbw : Below w.heap.size w w1 := (Below.trans (by repeat (first | assumption | exact Below.refl _ _ | apply bl_alloc | apply bl_drew | (refine bl_setCell ?_ (by simp <;> omega) _))) (hb.mono (by first | omega | (simp; done) | (simp; omega)))); have g0 : w1.cell? ⟨w.heap.size, 0, none⟩ = some (.int .i64 l) := ((bcell hb).1 _ _ (by first | omega | (simp; done) | (simp; omega))).trans (by first | assumption | (go_simp; done) | (simp; done)); have g1 : w1.cell? ⟨w.heap.size, 1, none⟩ = some (.int .i64 t) := ((bcell hb).1 _ _ (by first | omega | (simp; done) | (simp; omega))).trans (by first | assumption | (go_simp; done) | (simp; done)); have g2 : w1.cell? ⟨w.heap.size, 2, none⟩ = some (.bool o) := ((bcell hb).1 _ _ (by first | omega | (simp; done) | (simp; omega))).trans (by first | assumption | (go_simp; done) | (simp; done)); have q0 : w1.frozen? ⟨w.heap.size, 0, none⟩ = false := ((bcell hb).2 _ _ (by first | omega | (simp; done) | (simp; omega))).trans (by first | assumption | (go_simp; done) | (simp; done)); have q1 : w1.frozen? ⟨w.heap.size, 1, none⟩ = false := ((bcell hb).2 _ _ (by first | omega | (simp; done) | (simp; omega))).trans (by first | assumption | (go_simp; done) | (simp; done)); have q2 : w1.frozen? ⟨w.heap.size, 2, none⟩ = false := ((bcell hb).2 _ _ (by first | omega | (simp; done) | (simp; omega))).trans (by first | assumption | (go_simp; done) | (simp; done)); clear hb)
    go_wp2_with fail
    go_loopw [19] (fun v19 wr => ∃ (k : Nat) (l' t' : Int) (o' : Bool), v19 = .int .i64 k ∧ k ≤ xs.length ∧ Aside0 (-9223372036854775808 ≤ l' ∧ l' ≤ 9223372036854775807) ∧ Aside0 (-9223372036854775808 ≤ t' ∧ t' ≤ 9223372036854775807) ∧ wr.cell? ⟨w.heap.size, 0, none⟩ = some (.int .i64 l') ∧ wr.cell? ⟨w.heap.size, 1, none⟩ = some (.int .i64 t') ∧ wr.cell? ⟨w.heap.size, 2, none⟩ = some (.bool o') ∧
        wr.frozen? ⟨w.heap.size, 0, none⟩ = false ∧ wr.frozen? ⟨w.heap.size, 1, none⟩ = false ∧ wr.frozen? ⟨w.heap.size, 2, none⟩ = false ∧ w.heap.size < wr.heap.size ∧ Below w.heap.size w wr) (fun v19 _ => xs.length - (intOf v19).toNat)
    case atStart => exact ⟨0, l, t, o, rfl, Nat.zero_le _, Hl, Ht, by assumption, by assumption, by assumption, by assumption, by assumption, by assumption, by assumption, by assumption⟩
    case round =>
      obtain ⟨k, l', t', o', rfl, hk, Hl', Ht', c0, c1, c2, f0, f1, f2, hzr, hbr⟩ := hrel
      have hk2 : (k : Int) ≤ 9223372036854775807 := by omega
      by_cases hlt : k < xs.length
      · have hq : (k : Int) < (xs.length : Int) := by omega
        have hq0 : (0 : Int) ≤ (k : Int) := by omega
        obtain ⟨ad, rfl, hcell⟩ := (Hr.out.below hbr).at_ k hq0 hq
        rw [Int.toNat_natCast] at hcell
        have hxb := bounds_i64 (Hx.out (rd xs k) (by unfold rd; rw [Int.toNat_natCast, List.getD_eq_getElem?_getD, List.getElem?_eq_getElem hlt]; exact List.getElem_mem hlt))
        have hm0 := Int.tmod_lt_of_pos (rd xs k) (show (0 : Int) < 5 by omega)
        have hm1 := Int.lt_tmod_of_pos (rd xs k) (show (0 : Int) < 5 by omega)
        have c26 := fun w => tick_any l' t' o' (rd xs k) (Int.tmod (rd xs k) 5) Hl'.out Ht'.out hxb.2 (by omega) w
        have C26 := Aside0.mk c26
        obtain ⟨B1, B2⟩ := tick_bounds l' t' o' (rd xs k) (Int.tmod (rd xs k) 5) Hl'.out Ht'.out (by omega)
        have hB1 := Aside0.mk B1
        have hB2 := Aside0.mk B2
        generalize rd xs k = x at *
        clear c26 B1 B2 hlt
        cases o' with
        | true =>
          go_wp2_with fail
          refine (C26.out _).mono ?_
          rintro e w2 ⟨rfl, hb⟩
          (have hz : wr.heap.size < w2.heap.size := (by have := hb.size; first | omega | (simp at this; omega)); have hbw : Below w.heap.size w w2 := (Below.trans (by repeat (first | assumption | exact Below.refl _ _ | apply bl_alloc | apply bl_drew | (refine bl_setCell ?_ (by simp <;> omega) _))) (hb.mono (by first | omega | (simp; done) | (simp; omega)))); have g0 : w2.cell? ⟨w.heap.size, 0, none⟩ = some (.int .i64 l') := ((bcell hb).1 _ _ (by first | omega | (simp; done) | (simp; omega))).trans (by first | assumption | (go_simp; done) | (simp; done)); have g1 : w2.cell? ⟨w.heap.size, 1, none⟩ = some (.int .i64 t') := ((bcell hb).1 _ _ (by first | omega | (simp; done) | (simp; omega))).trans (by first | assumption | (go_simp; done) | (simp; done)); have g2 : w2.cell? ⟨w.heap.size, 2, none⟩ = some (.bool true) := ((bcell hb).1 _ _ (by first | omega | (simp; done) | (simp; omega))).trans (by first | assumption | (go_simp; done) | (simp; done)); have g3 : w2.cell? ⟨wr.heap.size, 0, none⟩ = some (.int .i64 l') := ((bcell hb).1 _ _ (by first | omega | (simp; done) | (simp; omega))).trans (by first | assumption | (go_simp; done) | (simp; done)); have g4 : w2.cell? ⟨wr.heap.size, 1, none⟩ = some (.int .i64 t') := ((bcell hb).1 _ _ (by first | omega | (simp; done) | (simp; omega))).trans (by first | assumption | (go_simp; done) | (simp; done)); have g5 : w2.cell? ⟨wr.heap.size, 2, none⟩ = some (.bool true) := ((bcell hb).1 _ _ (by first | omega | (simp; done) | (simp; omega))).trans (by first | assumption | (go_simp; done) | (simp; done)); have q0 : w2.frozen? ⟨w.heap.size, 0, none⟩ = false := ((bcell hb).2 _ _ (by first | omega | (simp; done) | (simp; omega))).trans (by first | assumption | (go_simp; done) | (simp; done)); have q1 : w2.frozen? ⟨w.heap.size, 1, none⟩ = false := ((bcell hb).2 _ _ (by first | omega | (simp; done) | (simp; omega))).trans (by first | assumption | (go_simp; done) | (simp; done)); have q2 : w2.frozen? ⟨w.heap.size, 2, none⟩ = false := ((bcell hb).2 _ _ (by first | omega | (simp; done) | (simp; omega))).trans (by first | assumption | (go_simp; done) | (simp; done)); clear hb)
          obtain ⟨e1, e2, e3, e4⟩ := tick_over l' t' x (Int.tmod x 5)
          rw [e1, e2] at *
          have hne : ((0 : Int) != 0) = false := rfl
          clear c0 c1 c2 f0 f1 f2
          go_wp2
          go_roundw
          case rel => exact ⟨k + 1, l', t', true, by go_num, by omega, Hl', Ht', by go_simp, by go_simp, by go_simp, by go_simp, by go_simp, by go_simp, by simp; omega, by repeat (first | assumption | apply bl_alloc | (refine bl_setCell ?_ (by simp <;> omega) _))⟩
          case measure => simp [intOf]; omega
        | false =>
          go_wp2_with fail
          refine (C26.out _).mono ?_
          rintro e w2 ⟨rfl, hb⟩
          (have hz : wr.heap.size < w2.heap.size := (by have := hb.size; first | omega | (simp at this; omega)); have hbw : Below w.heap.size w w2 := (Below.trans (by repeat (first | assumption | exact Below.refl _ _ | apply bl_alloc | apply bl_drew | (refine bl_setCell ?_ (by simp <;> omega) _))) (hb.mono (by first | omega | (simp; done) | (simp; omega)))); have g0 : w2.cell? ⟨w.heap.size, 0, none⟩ = some (.int .i64 l') := ((bcell hb).1 _ _ (by first | omega | (simp; done) | (simp; omega))).trans (by first | assumption | (go_simp; done) | (simp; done)); have g1 : w2.cell? ⟨w.heap.size, 1, none⟩ = some (.int .i64 t') := ((bcell hb).1 _ _ (by first | omega | (simp; done) | (simp; omega))).trans (by first | assumption | (go_simp; done) | (simp; done)); have g2 : w2.cell? ⟨w.heap.size, 2, none⟩ = some (.bool false) := ((bcell hb).1 _ _ (by first | omega | (simp; done) | (simp; omega))).trans (by first | assumption | (go_simp; done) | (simp; done)); have g3 : w2.cell? ⟨wr.heap.size, 0, none⟩ = some (.int .i64 l') := ((bcell hb).1 _ _ (by first | omega | (simp; done) | (simp; omega))).trans (by first | assumption | (go_simp; done) | (simp; done)); have g4 : w2.cell? ⟨wr.heap.size, 1, none⟩ = some (.int .i64 t') := ((bcell hb).1 _ _ (by first | omega | (simp; done) | (simp; omega))).trans (by first | assumption | (go_simp; done) | (simp; done)); have g5 : w2.cell? ⟨wr.heap.size, 2, none⟩ = some (.bool false) := ((bcell hb).1 _ _ (by first | omega | (simp; done) | (simp; omega))).trans (by first | assumption | (go_simp; done) | (simp; done)); have q0 : w2.frozen? ⟨w.heap.size, 0, none⟩ = false := ((bcell hb).2 _ _ (by first | omega | (simp; done) | (simp; omega))).trans (by first | assumption | (go_simp; done) | (simp; done)); have q1 : w2.frozen? ⟨w.heap.size, 1, none⟩ = false := ((bcell hb).2 _ _ (by first | omega | (simp; done) | (simp; omega))).trans (by first | assumption | (go_simp; done) | (simp; done)); have q2 : w2.frozen? ⟨w.heap.size, 2, none⟩ = false := ((bcell hb).2 _ _ (by first | omega | (simp; done) | (simp; omega))).trans (by first | assumption | (go_simp; done) | (simp; done)); clear hb)
          obtain ⟨e1, e2⟩ := tick_live l' t' (Int.tmod x 5)
          generalize tL l' t' false x (Int.tmod x 5) = L2 at *
          generalize tT l' t' false (Int.tmod x 5) = T2 at *
          generalize tO l' t' false (Int.tmod x 5) = O2 at *
          generalize tW l' t' false (Int.tmod x 5) = W2 at *
          clear c0 c1 c2 f0 f1 f2
          have e3 : decide (T2 < t') = false := decide_eq_false (by omega)
          go_wp2
          all_goals first
            | (exfalso; omega)
            | (exfalso; have e4 : O2 = (W2 == 2) := (by simpa using e2); contradiction)
            | (go_roundw
               case rel => exact ⟨k + 1, L2, T2, O2, by go_num, by omega, hB1, hB2, by go_simp, by go_simp, by go_simp, by go_simp, by go_simp, by go_simp, by simp; omega, by repeat (first | assumption | apply bl_alloc | (refine bl_setCell ?_ (by simp <;> omega) _))⟩
               case measure => simp [intOf]; omega)
      · have : k = xs.length := by omega
        subst this
        go_wp2
        go_ret
        exact ⟨rfl, by assumption⟩
end Go.Proofs.Ytghgmfnebiicgaa.Timer
