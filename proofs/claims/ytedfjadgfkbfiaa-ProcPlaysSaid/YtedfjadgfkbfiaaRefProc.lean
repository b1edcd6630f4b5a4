/- The methods of the reference's Proc. -/
import Derived.Test.YtedfjadgfkbfiaaProcDo
import Derived.Test.YtedfjadgfkbfiaaRefTick
import Derived.Deep.RegionWith
import Derived.Deep.DeepCutAuto
namespace Go.Proofs.Ytedfjadgfkbfiaa.ProcW
open Go.RowKit Go.Proofs.YtedfjadgfkbfiaaW.PrintWords Go.Proofs.YtedfjadgfkbfiaaW.PrintLast Go.Proofs.YtedfjadgfkbfiaaW.PrintMore Go.Proofs.Ytedfjadgfkbfiaa.Timer
set_option linter.unusedVariables false
set_option linter.unusedSimpArgs false
theorem k_alloc {w : World} {a : Addr} {v : Value} {o : Obj} (h : w.cell? a = some v) : (w.alloc o).cell? a = some v :=
  (World.cell?_alloc_lt _ _ _ (World.block_lt_of_cell? w a h)).trans h
theorem k_drew {w : World} {a : Addr} {v : Value} (h : w.cell? a = some v) : w.drew.cell? a = some v := h
theorem k_far {w : World} {p a : Addr} {v u : Value} (hp : p.block ≠ a.block) (h : w.cell? a = some v) : (w.setCell p u).cell? a = some v :=
  (World.cell?_setCell_far w p a u hp).trans h
theorem t_alloc {w : World} {n : Nat} {o : Obj} (h : n < w.heap.size) : n < (w.alloc o).heap.size := by rw [World.size_alloc]; omega
theorem t_drew {w : World} {n : Nat} (h : n < w.heap.size) : n < w.drew.heap.size := h
theorem t_set {w : World} {n : Nat} {p : Addr} {u : Value} (h : n < w.heap.size) : n < (w.setCell p u).heap.size := by simpa [World.setCell] using h
theorem Mod.fresh {g : Nat} {w W : World} (h : Mod g w W) {b i : Nat} (hb : w.heap.size ≤ b) (u : Value) : Mod g w (W.setCell ⟨b, i, none⟩ u) :=
  ⟨h.1, h.2.1, h.2.2.1, Nat.le_trans h.2.2.2.1 (by simp [World.setCell]), fun j hj hg => (Below.heap_setCell _ _ _ _ (by dsimp only; omega)).trans (h.2.2.2.2 j hj hg)⟩
set_option maxHeartbeats 4000000 in
set_option maxRecDepth 100000 in
theorem refPinned_any (g : Nat) (L T : Int) (O : Bool) (wt tr nm B : Int) (W : Bool) (V : Int) (bz : Bool) (w : World) (hB : w.heap[g]? = some (.cells #[.int .i64 wt, .int .i64 tr, .int .i64 nm, .int .i64 B, .bool W, .int .i64 V, .bool bz, .int .i64 L, .int .i64 T, .bool O] 78 (0, 0))) :
    Calls Try.prog 41 #[.pointer (some ⟨g, 0, none⟩)] w fun e w' => e = .returned (.int .i64 (if bz = true then B else -1)) ∧ w' = w := by
  (have c0 : w.cell? ⟨g, 0, none⟩ = some (.int .i64 wt) := (blk_cell hB 0).trans rfl; have c1 : w.cell? ⟨g, 1, none⟩ = some (.int .i64 tr) := (blk_cell hB 1).trans rfl; have c2 : w.cell? ⟨g, 2, none⟩ = some (.int .i64 nm) := (blk_cell hB 2).trans rfl; have c3 : w.cell? ⟨g, 3, none⟩ = some (.int .i64 B) := (blk_cell hB 3).trans rfl; have c4 : w.cell? ⟨g, 4, none⟩ = some (.bool W) := (blk_cell hB 4).trans rfl; have c5 : w.cell? ⟨g, 5, none⟩ = some (.int .i64 V) := (blk_cell hB 5).trans rfl; have c6 : w.cell? ⟨g, 6, none⟩ = some (.bool bz) := (blk_cell hB 6).trans rfl; have c7 : w.cell? ⟨g, 7, none⟩ = some (.int .i64 L) := (blk_cell hB 7).trans rfl; have c8 : w.cell? ⟨g, 8, none⟩ = some (.int .i64 T) := (blk_cell hB 8).trans rfl; have c9 : w.cell? ⟨g, 9, none⟩ = some (.bool O) := (blk_cell hB 9).trans rfl; have cf0 : w.frozen? ⟨g, 0, none⟩ = false := blk_frozen hB 0; have cf1 : w.frozen? ⟨g, 1, none⟩ = false := blk_frozen hB 1; have cf2 : w.frozen? ⟨g, 2, none⟩ = false := blk_frozen hB 2; have cf3 : w.frozen? ⟨g, 3, none⟩ = false := blk_frozen hB 3; have cf4 : w.frozen? ⟨g, 4, none⟩ = false := blk_frozen hB 4; have cf5 : w.frozen? ⟨g, 5, none⟩ = false := blk_frozen hB 5; have cf6 : w.frozen? ⟨g, 6, none⟩ = false := blk_frozen hB 6; have cf7 : w.frozen? ⟨g, 7, none⟩ = false := blk_frozen hB 7; have cf8 : w.frozen? ⟨g, 8, none⟩ = false := blk_frozen hB 8; have cf9 : w.frozen? ⟨g, 9, none⟩ = false := blk_frozen hB 9)
  clear hB
  cases bz
  · rw [if_neg (by simp)]
    go_enter Try.func41, Try.ntmps41
    go_wp2
    go_ret
    exact ⟨rfl, rfl⟩
  · rw [if_pos rfl]
    go_enter Try.func41, Try.ntmps41
    go_wp2
    go_ret
    exact ⟨rfl, rfl⟩

set_option maxHeartbeats 4000000 in
set_option maxRecDepth 100000 in
theorem refTick_idle (g : Nat) (L T : Int) (O : Bool) (wt tr nm B : Int) (W : Bool) (V : Int) (w : World) (hB : w.heap[g]? = some (.cells #[.int .i64 wt, .int .i64 tr, .int .i64 nm, .int .i64 B, .bool W, .int .i64 V, .bool false, .int .i64 L, .int .i64 T, .bool O] 78 (0, 0))) :
    Calls Try.prog 39 #[.pointer (some ⟨g, 0, none⟩)] w fun e w' => e = .returned (.int .i64 0) ∧ w' = w := by
  (have c0 : w.cell? ⟨g, 0, none⟩ = some (.int .i64 wt) := (blk_cell hB 0).trans rfl; have c1 : w.cell? ⟨g, 1, none⟩ = some (.int .i64 tr) := (blk_cell hB 1).trans rfl; have c2 : w.cell? ⟨g, 2, none⟩ = some (.int .i64 nm) := (blk_cell hB 2).trans rfl; have c3 : w.cell? ⟨g, 3, none⟩ = some (.int .i64 B) := (blk_cell hB 3).trans rfl; have c4 : w.cell? ⟨g, 4, none⟩ = some (.bool W) := (blk_cell hB 4).trans rfl; have c5 : w.cell? ⟨g, 5, none⟩ = some (.int .i64 V) := (blk_cell hB 5).trans rfl; have c6 : w.cell? ⟨g, 6, none⟩ = some (.bool false) := (blk_cell hB 6).trans rfl; have c7 : w.cell? ⟨g, 7, none⟩ = some (.int .i64 L) := (blk_cell hB 7).trans rfl; have c8 : w.cell? ⟨g, 8, none⟩ = some (.int .i64 T) := (blk_cell hB 8).trans rfl; have c9 : w.cell? ⟨g, 9, none⟩ = some (.bool O) := (blk_cell hB 9).trans rfl; have cf0 : w.frozen? ⟨g, 0, none⟩ = false := blk_frozen hB 0; have cf1 : w.frozen? ⟨g, 1, none⟩ = false := blk_frozen hB 1; have cf2 : w.frozen? ⟨g, 2, none⟩ = false := blk_frozen hB 2; have cf3 : w.frozen? ⟨g, 3, none⟩ = false := blk_frozen hB 3; have cf4 : w.frozen? ⟨g, 4, none⟩ = false := blk_frozen hB 4; have cf5 : w.frozen? ⟨g, 5, none⟩ = false := blk_frozen hB 5; have cf6 : w.frozen? ⟨g, 6, none⟩ = false := blk_frozen hB 6; have cf7 : w.frozen? ⟨g, 7, none⟩ = false := blk_frozen hB 7; have cf8 : w.frozen? ⟨g, 8, none⟩ = false := blk_frozen hB 8; have cf9 : w.frozen? ⟨g, 9, none⟩ = false := blk_frozen hB 9)
  clear hB
  go_enter Try.func39, Try.ntmps39
  go_wp2
  go_ret
  exact ⟨rfl, rfl⟩

set_option maxHeartbeats 4000000 in
set_option maxRecDepth 100000 in
theorem refTick_busy (g : Nat) (L T : Int) (O : Bool) (wt tr nm B : Int) (W : Bool) (V : Int) (w : World) (hB : w.heap[g]? = some (.cells #[.int .i64 wt, .int .i64 tr, .int .i64 nm, .int .i64 B, .bool W, .int .i64 V, .bool true, .int .i64 L, .int .i64 T, .bool O] 78 (0, 0))) (L2 T2 : Int) (O2 : Bool) (what : Int)
    (h50 : ∀ w, Calls Try.prog 50 #[.agg #[.int .i64 L, .int .i64 T, .bool O], .int .i64 wt, .int .i64 tr] w fun e w' => e = .returned (.tuple #[.agg #[.int .i64 L2, .int .i64 T2, .bool O2], .int .i64 what]) ∧ Below w.heap.size w w') :
    Calls Try.prog 39 #[.pointer (some ⟨g, 0, none⟩)] w fun e w' => e = .returned (.int .i64 what) ∧ w'.heap[g]? = some (.cells #[.int .i64 wt, .int .i64 tr, .int .i64 nm, .int .i64 B, .bool W, .int .i64 V, .bool true, .int .i64 L2, .int .i64 T2, .bool O2] 78 (0, 0)) ∧ Mod g w w' := by
  have HB := Aside0.mk hB
  have hlt := blk_lt hB
  (have c0 : w.cell? ⟨g, 0, none⟩ = some (.int .i64 wt) := (blk_cell hB 0).trans rfl; have c1 : w.cell? ⟨g, 1, none⟩ = some (.int .i64 tr) := (blk_cell hB 1).trans rfl; have c2 : w.cell? ⟨g, 2, none⟩ = some (.int .i64 nm) := (blk_cell hB 2).trans rfl; have c3 : w.cell? ⟨g, 3, none⟩ = some (.int .i64 B) := (blk_cell hB 3).trans rfl; have c4 : w.cell? ⟨g, 4, none⟩ = some (.bool W) := (blk_cell hB 4).trans rfl; have c5 : w.cell? ⟨g, 5, none⟩ = some (.int .i64 V) := (blk_cell hB 5).trans rfl; have c6 : w.cell? ⟨g, 6, none⟩ = some (.bool true) := (blk_cell hB 6).trans rfl; have c7 : w.cell? ⟨g, 7, none⟩ = some (.int .i64 L) := (blk_cell hB 7).trans rfl; have c8 : w.cell? ⟨g, 8, none⟩ = some (.int .i64 T) := (blk_cell hB 8).trans rfl; have c9 : w.cell? ⟨g, 9, none⟩ = some (.bool O) := (blk_cell hB 9).trans rfl; have cf0 : w.frozen? ⟨g, 0, none⟩ = false := blk_frozen hB 0; have cf1 : w.frozen? ⟨g, 1, none⟩ = false := blk_frozen hB 1; have cf2 : w.frozen? ⟨g, 2, none⟩ = false := blk_frozen hB 2; have cf3 : w.frozen? ⟨g, 3, none⟩ = false := blk_frozen hB 3; have cf4 : w.frozen? ⟨g, 4, none⟩ = false := blk_frozen hB 4; have cf5 : w.frozen? ⟨g, 5, none⟩ = false := blk_frozen hB 5; have cf6 : w.frozen? ⟨g, 6, none⟩ = false := blk_frozen hB 6; have cf7 : w.frozen? ⟨g, 7, none⟩ = false := blk_frozen hB 7; have cf8 : w.frozen? ⟨g, 8, none⟩ = false := blk_frozen hB 8; have cf9 : w.frozen? ⟨g, 9, none⟩ = false := blk_frozen hB 9)
  clear hB
  have H50 := Aside0.mk h50
  clear h50
  go_enter Try.func39, Try.ntmps39
  go_wp2_with fail
  go_upto_region 3 with fail
  go_cut [3, 4] (fun v3 v4 wx => ∃ h : Nat, v3 = .pointer (some ⟨h, 0, none⟩) ∧ v4 = .int .i64 what ∧ h ≠ g ∧ wx.heap[h]? = some (.cells #[.int .i64 L2, .int .i64 T2, .bool O2] 76 (0, 0)) ∧ wx.heap[g]? = some (.cells #[.int .i64 wt, .int .i64 tr, .int .i64 nm, .int .i64 B, .bool W, .int .i64 V, .bool true, .int .i64 L, .int .i64 T, .bool O] 78 (0, 0)) ∧ Mod g w wx)
  case first =>
    go_region_held3 (fun x => x.cell? ⟨g, 0, none⟩ = some (.int .i64 wt) ∧ x.cell? ⟨g, 1, none⟩ = some (.int .i64 tr) ∧ x.cell? ⟨g, 2, none⟩ = some (.int .i64 nm) ∧ x.cell? ⟨g, 3, none⟩ = some (.int .i64 B) ∧ x.cell? ⟨g, 4, none⟩ = some (.bool W) ∧ x.cell? ⟨g, 5, none⟩ = some (.int .i64 V) ∧ x.cell? ⟨g, 6, none⟩ = some (.bool true) ∧ x.cell? ⟨g, 7, none⟩ = some (.int .i64 L) ∧ x.cell? ⟨g, 8, none⟩ = some (.int .i64 T) ∧ x.cell? ⟨g, 9, none⟩ = some (.bool O)) (((try go_split_ands); refine ⟨?_, ?_, ?_, ?_, ?_, ?_, ?_, ?_, ?_, ?_⟩ <;> (repeat (first | (with_reducible assumption) | (with_reducible refine k_drew ?_) | (with_reducible refine t_drew ?_) | (with_reducible apply bl_drew) | (with_reducible refine k_alloc ?_) | (with_reducible refine t_alloc ?_) | (with_reducible apply bl_alloc) | (with_reducible refine t_set ?_) | ((with_reducible refine k_far ?_ ?_); · ((try dsimp only); omega)) | ((with_reducible refine bl_setCell ?_ ?_ _); rotate_left; · ((try dsimp only); omega))))))
      ((go_at_call 50; refine (H50.out _).mono ?_; rintro e w5 ⟨rfl, hb⟩; have G5 := Aside0.mk (blk_below (show _ from by first | exact HB.out | exact blk_alloc HB.out _) hb); have d0 : w5.cell? ⟨g, 0, none⟩ = some (.int .i64 wt) := (blk_cell G5.out 0).trans rfl; have d1 : w5.cell? ⟨g, 1, none⟩ = some (.int .i64 tr) := (blk_cell G5.out 1).trans rfl; have d2 : w5.cell? ⟨g, 2, none⟩ = some (.int .i64 nm) := (blk_cell G5.out 2).trans rfl; have d3 : w5.cell? ⟨g, 3, none⟩ = some (.int .i64 B) := (blk_cell G5.out 3).trans rfl; have d4 : w5.cell? ⟨g, 4, none⟩ = some (.bool W) := (blk_cell G5.out 4).trans rfl; have d5 : w5.cell? ⟨g, 5, none⟩ = some (.int .i64 V) := (blk_cell G5.out 5).trans rfl; have d6 : w5.cell? ⟨g, 6, none⟩ = some (.bool true) := (blk_cell G5.out 6).trans rfl; have d7 : w5.cell? ⟨g, 7, none⟩ = some (.int .i64 L) := (blk_cell G5.out 7).trans rfl; have d8 : w5.cell? ⟨g, 8, none⟩ = some (.int .i64 T) := (blk_cell G5.out 8).trans rfl; have d9 : w5.cell? ⟨g, 9, none⟩ = some (.bool O) := (blk_cell G5.out 9).trans rfl; have df0 : w5.frozen? ⟨g, 0, none⟩ = false := blk_frozen G5.out 0; have df1 : w5.frozen? ⟨g, 1, none⟩ = false := blk_frozen G5.out 1; have df2 : w5.frozen? ⟨g, 2, none⟩ = false := blk_frozen G5.out 2; have df3 : w5.frozen? ⟨g, 3, none⟩ = false := blk_frozen G5.out 3; have df4 : w5.frozen? ⟨g, 4, none⟩ = false := blk_frozen G5.out 4; have df5 : w5.frozen? ⟨g, 5, none⟩ = false := blk_frozen G5.out 5; have df6 : w5.frozen? ⟨g, 6, none⟩ = false := blk_frozen G5.out 6; have df7 : w5.frozen? ⟨g, 7, none⟩ = false := blk_frozen G5.out 7; have df8 : w5.frozen? ⟨g, 8, none⟩ = false := blk_frozen G5.out 8; have df9 : w5.frozen? ⟨g, 9, none⟩ = false := blk_frozen G5.out 9; (try (have N5 := Aside0.mk (blk_below (g := w.heap.size) (o := .cells #[.int .i64 0, .int .i64 0, .bool false] 76) (by first | exact blk_new w _ | exact blk_drew (blk_new w _)) hb); have n0 : w5.cell? ⟨w.heap.size, 0, none⟩ = some (.int .i64 0) := (blk_cell N5.out 0).trans rfl; have n1 : w5.cell? ⟨w.heap.size, 1, none⟩ = some (.int .i64 0) := (blk_cell N5.out 1).trans rfl; have n2 : w5.cell? ⟨w.heap.size, 2, none⟩ = some (.bool false) := (blk_cell N5.out 2).trans rfl; have nf0 : w5.frozen? ⟨w.heap.size, 0, none⟩ = false := blk_frozen N5.out 0; have nf1 : w5.frozen? ⟨w.heap.size, 1, none⟩ = false := blk_frozen N5.out 1; have nf2 : w5.frozen? ⟨w.heap.size, 2, none⟩ = false := blk_frozen N5.out 2))))
    · have HM : Mod g w w5 := by first | exact (Mod.refl g w).drew.trans (Mod.of_below g hb) | exact ((Mod.refl g w).alloc _).drew.trans (Mod.of_below g hb)
      have hlt5 := blk_lt G5.out
      clear hb
      go_wp2_with fail
      go_meet
      exact ⟨w5.heap.size, rfl, rfl, by omega, blk_new w5 _, blk_alloc G5.out _, HM.alloc _⟩
    · have HM : Mod g w w5 := by first | exact (Mod.refl g w).drew.trans (Mod.of_below g hb) | exact ((Mod.refl g w).alloc _).drew.trans (Mod.of_below g hb)
      clear hb
      go_wp2_with fail
      go_meet
      refine ⟨w.heap.size, rfl, rfl, by omega, ?_, ?_, ?_⟩
      · have hfin := blk_set (blk_set (blk_set N5.out 0 (.int .i64 L2)) 1 (.int .i64 T2)) 2 (.bool O2)
        simpa using hfin
      · exact blk_far (blk_far (blk_far G5.out (by dsimp only; omega) _) (by dsimp only; omega) _) (by dsimp only; omega) _
      · exact ((HM.fresh (Nat.le_refl _) _).fresh (Nat.le_refl _) _).fresh (Nat.le_refl _) _
  case rest =>
    obtain ⟨h, rfl, rfl, hne, hh, hg, hm⟩ := hcut
    (have h0 : wc.cell? ⟨h, 0, none⟩ = some (.int .i64 L2) := (blk_cell hh 0).trans rfl; have h1 : wc.cell? ⟨h, 1, none⟩ = some (.int .i64 T2) := (blk_cell hh 1).trans rfl; have h2 : wc.cell? ⟨h, 2, none⟩ = some (.bool O2) := (blk_cell hh 2).trans rfl; have hf0 : wc.frozen? ⟨h, 0, none⟩ = false := blk_frozen hh 0; have hf1 : wc.frozen? ⟨h, 1, none⟩ = false := blk_frozen hh 1; have hf2 : wc.frozen? ⟨h, 2, none⟩ = false := blk_frozen hh 2)
    (have j0 : wc.cell? ⟨g, 0, none⟩ = some (.int .i64 wt) := (blk_cell hg 0).trans rfl; have j1 : wc.cell? ⟨g, 1, none⟩ = some (.int .i64 tr) := (blk_cell hg 1).trans rfl; have j2 : wc.cell? ⟨g, 2, none⟩ = some (.int .i64 nm) := (blk_cell hg 2).trans rfl; have j3 : wc.cell? ⟨g, 3, none⟩ = some (.int .i64 B) := (blk_cell hg 3).trans rfl; have j4 : wc.cell? ⟨g, 4, none⟩ = some (.bool W) := (blk_cell hg 4).trans rfl; have j5 : wc.cell? ⟨g, 5, none⟩ = some (.int .i64 V) := (blk_cell hg 5).trans rfl; have j6 : wc.cell? ⟨g, 6, none⟩ = some (.bool true) := (blk_cell hg 6).trans rfl; have j7 : wc.cell? ⟨g, 7, none⟩ = some (.int .i64 L) := (blk_cell hg 7).trans rfl; have j8 : wc.cell? ⟨g, 8, none⟩ = some (.int .i64 T) := (blk_cell hg 8).trans rfl; have j9 : wc.cell? ⟨g, 9, none⟩ = some (.bool O) := (blk_cell hg 9).trans rfl; have jf0 : wc.frozen? ⟨g, 0, none⟩ = false := blk_frozen hg 0; have jf1 : wc.frozen? ⟨g, 1, none⟩ = false := blk_frozen hg 1; have jf2 : wc.frozen? ⟨g, 2, none⟩ = false := blk_frozen hg 2; have jf3 : wc.frozen? ⟨g, 3, none⟩ = false := blk_frozen hg 3; have jf4 : wc.frozen? ⟨g, 4, none⟩ = false := blk_frozen hg 4; have jf5 : wc.frozen? ⟨g, 5, none⟩ = false := blk_frozen hg 5; have jf6 : wc.frozen? ⟨g, 6, none⟩ = false := blk_frozen hg 6; have jf7 : wc.frozen? ⟨g, 7, none⟩ = false := blk_frozen hg 7; have jf8 : wc.frozen? ⟨g, 8, none⟩ = false := blk_frozen hg 8; have jf9 : wc.frozen? ⟨g, 9, none⟩ = false := blk_frozen hg 9)
    have HG := Aside0.mk hg
    have HMm := Aside0.mk hm
    clear hh hg hm
    go_wp2
    go_ret
    refine ⟨rfl, ?_, ((HMm.out.set _ _).set _ _).set _ _⟩
    have hfin := blk_set (blk_set (blk_set HG.out 7 (.int .i64 L2)) 8 (.int .i64 T2)) 9 (.bool O2)
    simpa using hfin
end Go.Proofs.Ytedfjadgfkbfiaa.ProcW
