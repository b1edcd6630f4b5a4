/- TimerTicks, walked: of any timer, wait and tries it answers true. -/
import Derived.Test.YtghgmfnebiicgaaTimerWalks
import Derived.Deep.RegionHeld3
import Derived.Test.YtghgmfnebiicgaaWEqStruct
namespace Go.Proofs.Ytghgmfnebiicgaa.Timer
open Go.RowKit Go.Proofs.YtghgmfnebiicgaaW.PrintWords Go.Proofs.YtghgmfnebiicgaaW.PrintLast Go.Proofs.YtghgmfnebiicgaaW.PrintMore
theorem eqA41 (d : Nat) (w : World) (x0 y0 x1 y1 : Int) (x2 y2 : Bool) :
    (Op.equalIn (d + 2) 41 (.agg #[.int .i64 x0, .int .i64 x1, .bool x2]) (.agg #[.int .i64 y0, .int .i64 y1, .bool y2])).run Try.prog w = .ok (x0 == y0 && (x1 == y1 && (x2 == y2))) w := by
  refine eqA_of Try.underlying41 (by kernel_rfl) ?_
  refine eqf_cons (by rfl) (by go_simp; rfl) (by go_simp; rfl) (by go_simp) ?_
  refine eqf_cons (by rfl) (by go_simp; rfl) (by go_simp; rfl) (by go_simp) ?_
  exact eqf_last (by rfl) (by go_simp; rfl) (by go_simp; rfl) (by go_simp)

attribute [local go_sem high] eqA41
attribute [local go_sem] World.cell?_alloc_some
set_option maxHeartbeats 4000000 in
set_option maxRecDepth 100000 in
theorem timerTicks_any (l t : Int) (o : Bool) (wt n : Int) (hl : -9223372036854775808 ≤ l ∧ l ≤ 9223372036854775807) (ht : -9223372036854775808 ≤ t ∧ t ≤ 9223372036854775807) (hw : wt ≤ 9223372036854775807) (hn : n ≤ 9223372036854775807) (w : World) :
    Calls Try.prog 8 #[.agg #[.int .i64 l, .int .i64 t, .bool o], .int .i64 wt, .int .i64 n] w (RB true w) := by
  have c26 := fun w => tick_any l t o wt n hl ht hw hn w
  have c27 := fun w => refTick_any l t o wt n hl ht hw hn w
  have C26 := Aside0.mk c26
  have C27 := Aside0.mk c27
  clear c26 c27 hl ht hw hn
  go_enter Try.func8, Try.ntmps8
  go_wp2_with fail
  refine (C26.out _).mono ?_
  rintro e w1 ⟨rfl, hb⟩
  (have hz : w.heap.size < w1.heap.size := (by have := hb.size; first | omega | (simp at this; omega)); have hbw : Below w.heap.size w w1 := (Below.trans (by repeat (first | assumption | exact Below.refl _ _ | apply bl_alloc | apply bl_drew | (refine bl_setCell ?_ (by simp <;> omega) _))) (hb.mono (by first | omega | (simp; done) | (simp; omega)))); have g0 : w1.cell? ⟨w.heap.size, 0, none⟩ = some (.int .i64 l) := ((bcell hb).1 _ _ (by first | omega | (simp; done) | (simp; omega))).trans (by first | assumption | (go_simp; done) | (simp; done)); have g1 : w1.cell? ⟨w.heap.size, 1, none⟩ = some (.int .i64 t) := ((bcell hb).1 _ _ (by first | omega | (simp; done) | (simp; omega))).trans (by first | assumption | (go_simp; done) | (simp; done)); have g2 : w1.cell? ⟨w.heap.size, 2, none⟩ = some (.bool o) := ((bcell hb).1 _ _ (by first | omega | (simp; done) | (simp; omega))).trans (by first | assumption | (go_simp; done) | (simp; done)); clear hb)
  go_wp2_with fail
  refine (C27.out _).mono ?_
  rintro e w2 ⟨rfl, hb⟩
  (have hz : w1.heap.size < w2.heap.size := (by have := hb.size; first | omega | (simp at this; omega)); have hbw : Below w.heap.size w w2 := (Below.trans (by repeat (first | assumption | exact Below.refl _ _ | apply bl_alloc | apply bl_drew | (refine bl_setCell ?_ (by simp <;> omega) _))) (hb.mono (by first | omega | (simp; done) | (simp; omega)))); have g0 : w2.cell? ⟨w1.heap.size, 0, none⟩ = some (.int .i64 (tL l t o wt n)) := ((bcell hb).1 _ _ (by first | omega | (simp; done) | (simp; omega))).trans (by first | assumption | (go_simp; done) | (simp; done)); have g1 : w2.cell? ⟨w1.heap.size, 1, none⟩ = some (.int .i64 (tT l t o n)) := ((bcell hb).1 _ _ (by first | omega | (simp; done) | (simp; omega))).trans (by first | assumption | (go_simp; done) | (simp; done)); have g2 : w2.cell? ⟨w1.heap.size, 2, none⟩ = some (.bool (tO l t o n)) := ((bcell hb).1 _ _ (by first | omega | (simp; done) | (simp; omega))).trans (by first | assumption | (go_simp; done) | (simp; done)); clear hb)
  go_wp2_with fail
  refine (awake_any _).mono ?_
  rintro e w3 ⟨rfl, hb⟩
  (have hz : w2.heap.size < w3.heap.size := (by have := hb.size; first | omega | (simp at this; omega)); have hbw : Below w.heap.size w w3 := (Below.trans (by repeat (first | assumption | exact Below.refl _ _ | apply bl_alloc | apply bl_drew | (refine bl_setCell ?_ (by simp <;> omega) _))) (hb.mono (by first | omega | (simp; done) | (simp; omega)))); have g0 : w3.cell? ⟨w1.heap.size, 0, none⟩ = some (.int .i64 (tL l t o wt n)) := ((bcell hb).1 _ _ (by first | omega | (simp; done) | (simp; omega))).trans (by first | assumption | (go_simp; done) | (simp; done)); have g1 : w3.cell? ⟨w1.heap.size, 1, none⟩ = some (.int .i64 (tT l t o n)) := ((bcell hb).1 _ _ (by first | omega | (simp; done) | (simp; omega))).trans (by first | assumption | (go_simp; done) | (simp; done)); have g2 : w3.cell? ⟨w1.heap.size, 2, none⟩ = some (.bool (tO l t o n)) := ((bcell hb).1 _ _ (by first | omega | (simp; done) | (simp; omega))).trans (by first | assumption | (go_simp; done) | (simp; done)); have g3 : w3.cell? ⟨w2.heap.size, 0, none⟩ = some (.int .i64 (tL l t o wt n)) := ((bcell hb).1 _ _ (by first | omega | (simp; done) | (simp; omega))).trans (by first | assumption | (go_simp; done) | (simp; done)); have g4 : w3.cell? ⟨w2.heap.size, 1, none⟩ = some (.int .i64 (tT l t o n)) := ((bcell hb).1 _ _ (by first | omega | (simp; done) | (simp; omega))).trans (by first | assumption | (go_simp; done) | (simp; done)); have g5 : w3.cell? ⟨w2.heap.size, 2, none⟩ = some (.bool (tO l t o n)) := ((bcell hb).1 _ _ (by first | omega | (simp; done) | (simp; omega))).trans (by first | assumption | (go_simp; done) | (simp; done)); clear hb)
  go_wp2_with fail
  refine (start_any _ _).mono ?_
  rintro e w4 ⟨rfl, hb⟩
  (have hz : w2.heap.size < w4.heap.size := (by have := hb.size; first | omega | (simp at this; omega)); have hbw : Below w.heap.size w w4 := (Below.trans (by repeat (first | assumption | exact Below.refl _ _ | apply bl_alloc | apply bl_drew | (refine bl_setCell ?_ (by simp <;> omega) _))) (hb.mono (by first | omega | (simp; done) | (simp; omega)))); clear hb)
  go_wp2_with fail
  refine (refStart_any _ _).mono ?_
  rintro e w5 ⟨rfl, hb⟩
  (have hz : w2.heap.size < w5.heap.size := (by have := hb.size; first | omega | (simp at this; omega)); have hbw : Below w.heap.size w w5 := (Below.trans (by repeat (first | assumption | exact Below.refl _ _ | apply bl_alloc | apply bl_drew | (refine bl_setCell ?_ (by simp <;> omega) _))) (hb.mono (by first | omega | (simp; done) | (simp; omega)))); clear hb)
  go_wp2
  go_ret
  exact ⟨by simp, by assumption⟩
end Go.Proofs.Ytghgmfnebiicgaa.Timer
