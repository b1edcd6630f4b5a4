/- What the reference's Tick comes to. -/
import Derived.Test.YtedfjadgfkbfiaaRefDouble
import Derived.Test.YtedfjadgfkbfiaaProcWalks
namespace Go.Proofs.Ytedfjadgfkbfiaa.Timer
open Go.RowKit Go.Proofs.YtedfjadgfkbfiaaW.PrintWords Go.Proofs.YtedfjadgfkbfiaaW.PrintLast Go.Proofs.YtedfjadgfkbfiaaW.PrintMore Go.Proofs.Ytedfjadgfkbfiaa.Aid
open Go.Proofs.Ytedfjadgfkbfiaa.ProcW (bcell)
set_option linter.unusedVariables false
theorem bl_alloc {w W : World} (h : Below w.heap.size w W) (o : Obj) : Below w.heap.size w (W.alloc o) := h.alloc h.size o
theorem bl_drew {w W : World} (h : Below w.heap.size w W) : Below w.heap.size w W.drew := h.drew
theorem bl_setCell {w W : World} (h : Below w.heap.size w W) {p : Addr} (hp : w.heap.size ≤ p.block) (v : Value) : Below w.heap.size w (W.setCell p v) := h.setCell hp v
set_option maxHeartbeats 4000000 in
set_option maxRecDepth 100000 in
theorem refTick_any (l t : Int) (o : Bool) (wt n : Int) (hl : -9223372036854775808 ≤ l ∧ l ≤ 9223372036854775807) (ht : -9223372036854775808 ≤ t ∧ t ≤ 9223372036854775807) (hw : wt ≤ 9223372036854775807) (hn : n ≤ 9223372036854775807) (w : World) :
    Calls Try.prog 50 #[.agg #[.int .i64 l, .int .i64 t, .bool o], .int .i64 wt, .int .i64 n] w (RT (tL l t o wt n) (tT l t o n) (tO l t o n) (tW l t o n) w) := by
  obtain ⟨hl0, hl1⟩ := hl
  obtain ⟨ht0, ht1⟩ := ht
  cases o with
  | true =>
    rw [show tL l t true wt n = l from rfl, show tT l t true n = t from rfl, show tO l t true n = true from rfl, show tW l t true n = 0 from rfl]
    go_enter Try.func50, Try.ntmps50
    go_wp2
    exact bodyPost_ret (v := .tuple #[.agg #[.int .i64 l, .int .i64 t, .bool true], .int .i64 0]) (by simp [results, Try.results50, go_sem]) rfl ⟨rfl, by repeat (first | exact Below.refl _ _ | apply bl_alloc)⟩
  | false =>
    by_cases h1 : l > 1
    · rw [show tL l t false wt n = l - 1 by simp [tL, h1], show tT l t false n = t by simp [tT, h1], show tO l t false n = false by simp [tO, h1], show tW l t false n = 0 by simp [tW, h1]]
      go_enter Try.func50, Try.ntmps50
      go_wp2
      exact bodyPost_ret (v := .tuple #[.agg #[.int .i64 (l - 1), .int .i64 t, .bool false], .int .i64 0]) (by simp [results, Try.results50, go_sem]) rfl ⟨rfl, by repeat (first | exact Below.refl _ _ | apply bl_alloc)⟩
    · by_cases h2 : t < n
      · have hd := Dbl_le wt (t + 1) 1048576 (by omega)
        by_cases h3 : Dbl wt (t + 1) 1048576 < 1
        · rw [show tL l t false wt n = 1 by simp [tL, h1, h2, h3], show tT l t false n = t + 1 by simp [tT, h1, h2], show tO l t false n = false by simp [tO, h1, h2], show tW l t false n = 1 by simp [tW, h1, h2]]
          go_enter Try.func50, Try.ntmps50
          go_wp2_with (go_at_call 52; refine (refDouble_any _ _ _).mono ?_; rintro e w' ⟨rfl, rfl⟩)
          exact bodyPost_ret (v := .tuple #[.agg #[.int .i64 (1), .int .i64 (t + 1), .bool false], .int .i64 1]) (by simp [results, Try.results50, go_sem, *]) rfl ⟨rfl, by repeat (first | exact Below.refl _ _ | assumption | apply bl_alloc | (refine bl_setCell ?_ (by simp) _))⟩
        · rw [show tL l t false wt n = Dbl wt (t + 1) 1048576 by simp [tL, h1, h2, h3], show tT l t false n = t + 1 by simp [tT, h1, h2], show tO l t false n = false by simp [tO, h1, h2], show tW l t false n = 1 by simp [tW, h1, h2]]
          go_enter Try.func50, Try.ntmps50
          go_wp2_with (go_at_call 52; refine (refDouble_any _ _ _).mono ?_; rintro e w' ⟨rfl, rfl⟩)
          exact bodyPost_ret (v := .tuple #[.agg #[.int .i64 (Dbl wt (t + 1) 1048576), .int .i64 (t + 1), .bool false], .int .i64 1]) (by simp [results, Try.results50, go_sem, *]) rfl ⟨rfl, by repeat (first | exact Below.refl _ _ | assumption | apply bl_alloc | (refine bl_setCell ?_ (by simp) _))⟩
      · rw [show tL l t false wt n = 0 by simp [tL, h1, h2], show tT l t false n = t by simp [tT, h1, h2], show tO l t false n = true by simp [tO, h1, h2], show tW l t false n = 2 by simp [tW, h1, h2]]
        go_enter Try.func50, Try.ntmps50
        go_wp2
        exact bodyPost_ret (v := .tuple #[.agg #[.int .i64 0, .int .i64 t, .bool true], .int .i64 2]) (by simp [results, Try.results50, go_sem]) rfl ⟨rfl, by repeat (first | exact Below.refl _ _ | apply bl_alloc)⟩
end Go.Proofs.Ytedfjadgfkbfiaa.Timer
