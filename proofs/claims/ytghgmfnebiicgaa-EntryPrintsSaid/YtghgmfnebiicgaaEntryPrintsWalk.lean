/- EntryPrints, walked: of any configuration, node and operation it answers true. -/
import Derived.Test.YtghgmfnebiicgaaEntryWalks
namespace Go.Proofs.Ytghgmfnebiicgaa.Entry
open Go.RowKit Go.Proofs.YtghgmfnebiicgaaW.PrintWords Go.Proofs.YtghgmfnebiicgaaW.PrintLast Go.Proofs.YtghgmfnebiicgaaW.PrintMore

attribute [local go_sem] max2_int max_two
attribute [local go_sem high] eqA29 eqA25
attribute [local go_sem] World.cell?_alloc_some

theorem legal_made (n m a b : Int) (wr : Bool) : legalB n m 1 a b (mkC wr) = (decide (0 ≤ a) && (decide (a < n) && (decide (0 ≤ b) && decide (b < m)))) := by
  cases wr <;> simp [legalB, mkC]

set_option maxHeartbeats 4000000 in
set_option maxRecDepth 100000 in
theorem entryPrints_any (c0 c1 c2 c3 c4 c5 c6 c7 c8 a b d : Int) (wr : Bool) (hd0 : -9223372036854775808 ≤ d) (hd1 : d ≤ 9223372036854775807) (w : World) :
    Calls Try.prog 5 #[.agg #[.int .i64 c0, .int .i64 c1, .int .i64 c2, .int .i64 c3, .int .i64 c4, .int .i64 c5, .int .i64 c6, .int .i64 c7, .int .i64 c8], .int .i64 a, .agg #[.int .i64 b, .bool wr, .int .i64 d]] w (RB true w) := by
  have hl := legal_made c0 c1 a b wr
  go_enter Try.func5, Try.ntmps5
  go_wp2_with (go_at_call 24; refine (make_any _ _ _ _ ⟨hd0, hd1⟩ _).mono ?_; rintro e w' ⟨rfl, hb⟩; have g0_0 : w'.cell? ⟨w.heap.size, 0, none⟩ = some (.int .i64 c0) := ((bcell hb).1 _ _ (by simp <;> omega)).trans (by first | (go_simp; done) | (simp; done)); have g0_1 : w'.cell? ⟨w.heap.size, 1, none⟩ = some (.int .i64 c1) := ((bcell hb).1 _ _ (by simp <;> omega)).trans (by first | (go_simp; done) | (simp; done)); have g0_2 : w'.cell? ⟨w.heap.size, 2, none⟩ = some (.int .i64 c2) := ((bcell hb).1 _ _ (by simp <;> omega)).trans (by first | (go_simp; done) | (simp; done)); have g0_3 : w'.cell? ⟨w.heap.size, 3, none⟩ = some (.int .i64 c3) := ((bcell hb).1 _ _ (by simp <;> omega)).trans (by first | (go_simp; done) | (simp; done)); have g0_4 : w'.cell? ⟨w.heap.size, 4, none⟩ = some (.int .i64 c4) := ((bcell hb).1 _ _ (by simp <;> omega)).trans (by first | (go_simp; done) | (simp; done)); have g0_5 : w'.cell? ⟨w.heap.size, 5, none⟩ = some (.int .i64 c5) := ((bcell hb).1 _ _ (by simp <;> omega)).trans (by first | (go_simp; done) | (simp; done)); have g0_6 : w'.cell? ⟨w.heap.size, 6, none⟩ = some (.int .i64 c6) := ((bcell hb).1 _ _ (by simp <;> omega)).trans (by first | (go_simp; done) | (simp; done)); have g0_7 : w'.cell? ⟨w.heap.size, 7, none⟩ = some (.int .i64 c7) := ((bcell hb).1 _ _ (by simp <;> omega)).trans (by first | (go_simp; done) | (simp; done)); have g0_8 : w'.cell? ⟨w.heap.size, 8, none⟩ = some (.int .i64 c8) := ((bcell hb).1 _ _ (by simp <;> omega)).trans (by first | (go_simp; done) | (simp; done)); have g1_0 : w'.cell? ⟨w.heap.size + 1, 0, none⟩ = some (.int .i64 b) := ((bcell hb).1 _ _ (by simp <;> omega)).trans (by first | (go_simp; done) | (simp; done)); have g1_1 : w'.cell? ⟨w.heap.size + 1, 1, none⟩ = some (.bool wr) := ((bcell hb).1 _ _ (by simp <;> omega)).trans (by first | (go_simp; done) | (simp; done)); have g1_2 : w'.cell? ⟨w.heap.size + 1, 2, none⟩ = some (.int .i64 d) := ((bcell hb).1 _ _ (by simp <;> omega)).trans (by first | (go_simp; done) | (simp; done)); have hz : w.heap.size + 1 < w'.heap.size := (by have := hb.size; simp at this; omega); have hbw : Below w.heap.size w w' := (Below.trans (by repeat (first | exact Below.refl _ _ | apply bl_alloc)) (hb.mono (by simp; omega))); have n0 := World.new_ne w' _ g0_0; have n1 := World.new_ne w' _ g1_0; clear hb)
  all_goals
    go_region_held3 (fun x => x.cell? ⟨w.heap.size, 0, none⟩ = some (.int .i64 c0) ∧ x.cell? ⟨w.heap.size, 1, none⟩ = some (.int .i64 c1) ∧ x.cell? ⟨w.heap.size, 2, none⟩ = some (.int .i64 c2) ∧ x.cell? ⟨w.heap.size, 3, none⟩ = some (.int .i64 c3) ∧ x.cell? ⟨w.heap.size, 4, none⟩ = some (.int .i64 c4) ∧ x.cell? ⟨w.heap.size, 5, none⟩ = some (.int .i64 c5) ∧ x.cell? ⟨w.heap.size, 6, none⟩ = some (.int .i64 c6) ∧ x.cell? ⟨w.heap.size, 7, none⟩ = some (.int .i64 c7) ∧ x.cell? ⟨w.heap.size, 8, none⟩ = some (.int .i64 c8) ∧ x.cell? ⟨w.heap.size + 1, 0, none⟩ = some (.int .i64 b) ∧ x.cell? ⟨w.heap.size + 1, 1, none⟩ = some (.bool wr) ∧ x.cell? ⟨w.heap.size + 1, 2, none⟩ = some (.int .i64 d) ∧ x.cell? ⟨w'.heap.size, 0, none⟩ = some (.int .i64 1) ∧ x.cell? ⟨w'.heap.size, 1, none⟩ = some (.int .i64 a) ∧ x.cell? ⟨w'.heap.size, 2, none⟩ = some (.int .i64 b) ∧ x.cell? ⟨w'.heap.size, 3, none⟩ = some (.int .i64 (mkC wr)) ∧ x.cell? ⟨w'.heap.size, 4, none⟩ = some (.int .i64 (mkD wr d)) ∧ w'.heap.size < x.heap.size ∧ Below w.heap.size w x)
      (first
        | (go_split_ands; refine ⟨?_, ?_, ?_, ?_, ?_, ?_, ?_, ?_, ?_, ?_, ?_, ?_, ?_, ?_, ?_, ?_, ?_, ?_, ?_⟩ <;> first | (rw [(bcell hb).1 _ _ (by omega)]; assumption) | (have := hb.size; omega) | exact Below.trans (by assumption) (hb.mono (by omega)))
        | (refine ⟨?_, ?_, ?_, ?_, ?_, ?_, ?_, ?_, ?_, ?_, ?_, ?_, ?_, ?_, ?_, ?_, ?_, ?_, ?_⟩ <;> first | (go_simp; done) | (simp; done) | assumption | (simp [*, World.cell?_alloc_some, World.cell?_setCell_far]; done) | (repeat (first | assumption | exact Below.refl _ _ | apply bl_alloc | apply bl_drew | apply bl_setCell))))
      (first
        | (go_at_call 19; refine (awake_any _).mono ?_; rintro e w' ⟨rfl, hb⟩)
        | (go_at_call 25; refine (refMake_any _ _ _ _ ⟨hd0, hd1⟩ _).mono ?_; rintro e w' ⟨rfl, hb⟩)
        | (go_at_call 20; refine (legal_any _ _ _ _ _ _ _ _ _ _ _ _ _ _ _).mono ?_; rintro e w' ⟨rfl, hb⟩))
    go_split_ands
    go_wp2
    go_ret
    refine ⟨?_, by assumption⟩
    first
      | (simp; done)
      | (simp [*]; done)
      | (simp; omega)

end Go.Proofs.Ytghgmfnebiicgaa.Entry
