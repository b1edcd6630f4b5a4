/- EntryOps, walked: of any entry it answers true. -/
import Derived.Test.YtghgmfnebiicgaaEntryWalks
namespace Go.Proofs.Ytghgmfnebiicgaa.Entry
open Go.RowKit Go.Proofs.YtghgmfnebiicgaaW.PrintWords Go.Proofs.YtghgmfnebiicgaaW.PrintLast Go.Proofs.YtghgmfnebiicgaaW.PrintMore

attribute [local go_sem] max2_int max_two
attribute [local go_sem high] eqA29 eqA25
attribute [local go_sem] World.cell?_alloc_some

set_option maxHeartbeats 4000000 in
set_option maxRecDepth 100000 in
theorem entryOps_any (k a b c d : Int) (w : World) :
    Calls Try.prog 4 #[.agg #[.int .i64 k, .int .i64 a, .int .i64 b, .int .i64 c, .int .i64 d]] w (RB true w) := by
  go_enter Try.func4, Try.ntmps4
  go_wp2_with fail
  go_region_held3 (fun w' => w'.cell? ⟨w.heap.size, 0, none⟩ = some (.int .i64 k) ∧ w'.cell? ⟨w.heap.size, 1, none⟩ = some (.int .i64 a) ∧ w'.cell? ⟨w.heap.size, 2, none⟩ = some (.int .i64 b) ∧ w'.cell? ⟨w.heap.size, 3, none⟩ = some (.int .i64 c) ∧ w'.cell? ⟨w.heap.size, 4, none⟩ = some (.int .i64 d) ∧ w.heap.size < w'.heap.size ∧ Below w.heap.size w w')
    (first
      | (go_split_ands; refine ⟨?_, ?_, ?_, ?_, ?_, ?_, ?_⟩ <;> first | (rw [(bcell hb).1 _ _ (by omega)]; assumption) | (have := hb.size; omega) | exact Below.trans (by assumption) (hb.mono (by omega)))
      | (refine ⟨?_, ?_, ?_, ?_, ?_, ?_, ?_⟩ <;> first | (go_simp; done) | (simp; done) | assumption | (repeat (first | exact Below.refl _ _ | apply bl_alloc | apply bl_drew | apply bl_setCell))))
    (first
      | (go_at_call 19; refine (awake_any _).mono ?_; rintro e w' ⟨rfl, hb⟩)
      | (go_at_call 22; refine (op_any _ _ _ _ _ _).mono ?_; rintro e w' ⟨rfl, hb⟩)
      | (go_at_call 23; refine (refOp_any _ _ _ _ _ _).mono ?_; rintro e w' ⟨rfl, hb⟩))
  all_goals
    go_split_ands
    go_wp2
    go_ret
    exact ⟨by simp, by assumption⟩

end Go.Proofs.Ytghgmfnebiicgaa.Entry
