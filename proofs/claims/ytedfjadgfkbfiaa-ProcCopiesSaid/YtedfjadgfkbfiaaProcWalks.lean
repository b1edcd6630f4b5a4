/- What the methods of proc.Proc come to. -/
import Derived.Test.YtedfjadgfkbfiaaPProcPlaysx1
import Derived.Deep.RegionWith
import Derived.Deep.RegionHeld3

namespace Go.Proofs.Ytedfjadgfkbfiaa.ProcW
open Go.RowKit Go.Proofs.YtedfjadgfkbfiaaW.PrintWords Go.Proofs.YtedfjadgfkbfiaaW.PrintLast Go.Proofs.YtedfjadgfkbfiaaW.PrintMore

/-- All that was there but block g is as it was. -/
def Mod (g : Nat) (w w' : World) : Prop := w'.os = w.os ∧ w'.tape = w.tape ∧ w'.output = w.output ∧ w.heap.size ≤ w'.heap.size ∧ ∀ i, i < w.heap.size → i ≠ g → w'.heap[i]? = w.heap[i]?
theorem Mod.refl (g : Nat) (w : World) : Mod g w w := ⟨rfl, rfl, rfl, Nat.le_refl _, fun _ _ _ => rfl⟩
theorem Mod.trans {g : Nat} {a b c : World} (h : Mod g a b) (k : Mod g b c) : Mod g a c :=
  ⟨k.1.trans h.1, k.2.1.trans h.2.1, k.2.2.1.trans h.2.2.1, Nat.le_trans h.2.2.2.1 k.2.2.2.1, fun i hi hg => (k.2.2.2.2 i (Nat.lt_of_lt_of_le hi h.2.2.2.1) hg).trans (h.2.2.2.2 i hi hg)⟩
theorem Mod.of_below {w w' : World} (g : Nat) (h : Below w.heap.size w w') : Mod g w w' := ⟨h.os, h.tape, h.output, h.size, fun i hi _ => h.block i hi⟩
theorem Mod.set {g : Nat} {w W : World} (h : Mod g w W) (i : Nat) (u : Value) : Mod g w (W.setCell ⟨g, i, none⟩ u) :=
  h.trans ⟨rfl, rfl, rfl, by simp [World.setCell], fun j hj hg => Below.heap_setCell _ _ _ _ hg⟩
theorem Mod.alloc {g : Nat} {w W : World} (h : Mod g w W) (o : Obj) : Mod g w (W.alloc o) := h.trans (Mod.of_below g ((Below.refl _ _).alloc (Nat.le_refl _) o))
theorem Mod.drew {g : Nat} {w W : World} (h : Mod g w W) : Mod g w W.drew := h.trans (Mod.of_below g (Below.refl _ _).drew)
theorem Mod.below {g B : Nat} {w w' : World} (h : Mod g w w') (hB : B ≤ g) (hs : B ≤ w.heap.size) : Below B w w' := ⟨h.1, h.2.1, h.2.2.1, h.2.2.2.1, fun i hi => h.2.2.2.2 i (by omega) (by omega)⟩
theorem Mod.blk {g g' : Nat} {w w' : World} {o : Obj} (h : Mod g w w') (hb : w.heap[g']? = some o) (hg : g' ≠ g) : w'.heap[g']? = some o := (h.2.2.2.2 g' (blk_lt hb) hg).trans hb
theorem bcell {W w1 : World} (hb : Below W.heap.size W w1) : (∀ b o, b < W.heap.size → w1.cell? ⟨b, o, none⟩ = W.cell? ⟨b, o, none⟩) ∧ (∀ b o, b < W.heap.size → w1.frozen? ⟨b, o, none⟩ = W.frozen? ⟨b, o, none⟩) :=
  ⟨fun b o h => hb.cell (p := ⟨b, o, none⟩) h, fun b o h => hb.frozen (p := ⟨b, o, none⟩) h⟩
set_option maxHeartbeats 4000000 in
set_option maxRecDepth 100000 in
theorem tick_idle (g : Nat) (L T : Int) (O : Bool) (wt tr nm B : Int) (W : Bool) (V : Int) (w : World) (hB : w.heap[g]? = some (.cells #[.int .i64 L, .int .i64 T, .bool O, .int .i64 wt, .int .i64 tr, .int .i64 nm, .int .i64 B, .bool W, .int .i64 V, .bool false] 86 (0, 0))) :
    Calls Try.prog 32 #[.pointer (some ⟨g, 0, none⟩)] w fun e w' => e = .returned (.int .i64 0) ∧ w' = w := by
  (have c0 : w.cell? ⟨g, 0, none⟩ = some (.int .i64 L) := (blk_cell hB 0).trans rfl; have c1 : w.cell? ⟨g, 1, none⟩ = some (.int .i64 T) := (blk_cell hB 1).trans rfl; have c2 : w.cell? ⟨g, 2, none⟩ = some (.bool O) := (blk_cell hB 2).trans rfl; have c3 : w.cell? ⟨g, 3, none⟩ = some (.int .i64 wt) := (blk_cell hB 3).trans rfl; have c4 : w.cell? ⟨g, 4, none⟩ = some (.int .i64 tr) := (blk_cell hB 4).trans rfl; have c5 : w.cell? ⟨g, 5, none⟩ = some (.int .i64 nm) := (blk_cell hB 5).trans rfl; have c6 : w.cell? ⟨g, 6, none⟩ = some (.int .i64 B) := (blk_cell hB 6).trans rfl; have c7 : w.cell? ⟨g, 7, none⟩ = some (.bool W) := (blk_cell hB 7).trans rfl; have c8 : w.cell? ⟨g, 8, none⟩ = some (.int .i64 V) := (blk_cell hB 8).trans rfl; have c9 : w.cell? ⟨g, 9, none⟩ = some (.bool false) := (blk_cell hB 9).trans rfl; have cf0 : w.frozen? ⟨g, 0, none⟩ = false := blk_frozen hB 0; have cf1 : w.frozen? ⟨g, 1, none⟩ = false := blk_frozen hB 1; have cf2 : w.frozen? ⟨g, 2, none⟩ = false := blk_frozen hB 2; have cf3 : w.frozen? ⟨g, 3, none⟩ = false := blk_frozen hB 3; have cf4 : w.frozen? ⟨g, 4, none⟩ = false := blk_frozen hB 4; have cf5 : w.frozen? ⟨g, 5, none⟩ = false := blk_frozen hB 5; have cf6 : w.frozen? ⟨g, 6, none⟩ = false := blk_frozen hB 6; have cf7 : w.frozen? ⟨g, 7, none⟩ = false := blk_frozen hB 7; have cf8 : w.frozen? ⟨g, 8, none⟩ = false := blk_frozen hB 8; have cf9 : w.frozen? ⟨g, 9, none⟩ = false := blk_frozen hB 9)
  clear hB
  go_enter Try.func32, Try.ntmps32
  go_wp2
  go_ret
  exact ⟨rfl, rfl⟩

set_option maxHeartbeats 4000000 in
set_option maxRecDepth 100000 in
theorem tick_busy (g : Nat) (L T : Int) (O : Bool) (wt tr nm B : Int) (W : Bool) (V : Int) (w : World) (hB : w.heap[g]? = some (.cells #[.int .i64 L, .int .i64 T, .bool O, .int .i64 wt, .int .i64 tr, .int .i64 nm, .int .i64 B, .bool W, .int .i64 V, .bool true] 86 (0, 0))) (L2 T2 : Int) (O2 : Bool) (what : Int)
    (h48 : ∀ w, Calls Try.prog 48 #[.agg #[.int .i64 L, .int .i64 T, .bool O], .int .i64 wt, .int .i64 tr] w fun e w' => e = .returned (.tuple #[.agg #[.int .i64 L2, .int .i64 T2, .bool O2], .int .i64 what]) ∧ Below w.heap.size w w') :
    Calls Try.prog 32 #[.pointer (some ⟨g, 0, none⟩)] w fun e w' => e = .returned (.int .i64 what) ∧ w'.heap[g]? = some (.cells #[.int .i64 L2, .int .i64 T2, .bool O2, .int .i64 wt, .int .i64 tr, .int .i64 nm, .int .i64 B, .bool W, .int .i64 V, .bool true] 86 (0, 0)) ∧ Mod g w w' := by
  have HB := Aside0.mk hB
  (have c0 : w.cell? ⟨g, 0, none⟩ = some (.int .i64 L) := (blk_cell hB 0).trans rfl; have c1 : w.cell? ⟨g, 1, none⟩ = some (.int .i64 T) := (blk_cell hB 1).trans rfl; have c2 : w.cell? ⟨g, 2, none⟩ = some (.bool O) := (blk_cell hB 2).trans rfl; have c3 : w.cell? ⟨g, 3, none⟩ = some (.int .i64 wt) := (blk_cell hB 3).trans rfl; have c4 : w.cell? ⟨g, 4, none⟩ = some (.int .i64 tr) := (blk_cell hB 4).trans rfl; have c5 : w.cell? ⟨g, 5, none⟩ = some (.int .i64 nm) := (blk_cell hB 5).trans rfl; have c6 : w.cell? ⟨g, 6, none⟩ = some (.int .i64 B) := (blk_cell hB 6).trans rfl; have c7 : w.cell? ⟨g, 7, none⟩ = some (.bool W) := (blk_cell hB 7).trans rfl; have c8 : w.cell? ⟨g, 8, none⟩ = some (.int .i64 V) := (blk_cell hB 8).trans rfl; have c9 : w.cell? ⟨g, 9, none⟩ = some (.bool true) := (blk_cell hB 9).trans rfl; have cf0 : w.frozen? ⟨g, 0, none⟩ = false := blk_frozen hB 0; have cf1 : w.frozen? ⟨g, 1, none⟩ = false := blk_frozen hB 1; have cf2 : w.frozen? ⟨g, 2, none⟩ = false := blk_frozen hB 2; have cf3 : w.frozen? ⟨g, 3, none⟩ = false := blk_frozen hB 3; have cf4 : w.frozen? ⟨g, 4, none⟩ = false := blk_frozen hB 4; have cf5 : w.frozen? ⟨g, 5, none⟩ = false := blk_frozen hB 5; have cf6 : w.frozen? ⟨g, 6, none⟩ = false := blk_frozen hB 6; have cf7 : w.frozen? ⟨g, 7, none⟩ = false := blk_frozen hB 7; have cf8 : w.frozen? ⟨g, 8, none⟩ = false := blk_frozen hB 8; have cf9 : w.frozen? ⟨g, 9, none⟩ = false := blk_frozen hB 9)
  clear hB
  have H48 := Aside0.mk h48
  clear h48
  go_enter Try.func32, Try.ntmps32
  go_wp2_with fail
  go_region_with (go_at_call 48; refine (H48.out _).mono ?_; rintro e w' ⟨rfl, hb⟩; have HB' := blk_below (by exact HB.out) hb; have d0 : w'.cell? ⟨g, 0, none⟩ = some (.int .i64 L) := (blk_cell HB' 0).trans rfl; have d1 : w'.cell? ⟨g, 1, none⟩ = some (.int .i64 T) := (blk_cell HB' 1).trans rfl; have d2 : w'.cell? ⟨g, 2, none⟩ = some (.bool O) := (blk_cell HB' 2).trans rfl; have d3 : w'.cell? ⟨g, 3, none⟩ = some (.int .i64 wt) := (blk_cell HB' 3).trans rfl; have d4 : w'.cell? ⟨g, 4, none⟩ = some (.int .i64 tr) := (blk_cell HB' 4).trans rfl; have d5 : w'.cell? ⟨g, 5, none⟩ = some (.int .i64 nm) := (blk_cell HB' 5).trans rfl; have d6 : w'.cell? ⟨g, 6, none⟩ = some (.int .i64 B) := (blk_cell HB' 6).trans rfl; have d7 : w'.cell? ⟨g, 7, none⟩ = some (.bool W) := (blk_cell HB' 7).trans rfl; have d8 : w'.cell? ⟨g, 8, none⟩ = some (.int .i64 V) := (blk_cell HB' 8).trans rfl; have d9 : w'.cell? ⟨g, 9, none⟩ = some (.bool true) := (blk_cell HB' 9).trans rfl; have df0 : w'.frozen? ⟨g, 0, none⟩ = false := blk_frozen HB' 0; have df1 : w'.frozen? ⟨g, 1, none⟩ = false := blk_frozen HB' 1; have df2 : w'.frozen? ⟨g, 2, none⟩ = false := blk_frozen HB' 2; have df3 : w'.frozen? ⟨g, 3, none⟩ = false := blk_frozen HB' 3; have df4 : w'.frozen? ⟨g, 4, none⟩ = false := blk_frozen HB' 4; have df5 : w'.frozen? ⟨g, 5, none⟩ = false := blk_frozen HB' 5; have df6 : w'.frozen? ⟨g, 6, none⟩ = false := blk_frozen HB' 6; have df7 : w'.frozen? ⟨g, 7, none⟩ = false := blk_frozen HB' 7; have df8 : w'.frozen? ⟨g, 8, none⟩ = false := blk_frozen HB' 8; have df9 : w'.frozen? ⟨g, 9, none⟩ = false := blk_frozen HB' 9)
  all_goals
    have HM : Mod g w w' := by first | exact Mod.of_below g hb | exact (Mod.refl g w).drew.trans (Mod.of_below g hb)
    clear hb
    go_wp2
    go_ret
    refine ⟨rfl, ?_, by repeat (first | exact HM | apply Mod.set)⟩
    have hfin := blk_set (blk_set (blk_set HB' 0 (.int .i64 L2)) 1 (.int .i64 T2)) 2 (.bool O2)
    simpa using hfin

set_option maxHeartbeats 4000000 in
set_option maxRecDepth 100000 in
theorem pending_any (g : Nat) (L T : Int) (O : Bool) (wt tr nm B : Int) (W : Bool) (V : Int) (bz : Bool) (w : World) (hB : w.heap[g]? = some (.cells #[.int .i64 L, .int .i64 T, .bool O, .int .i64 wt, .int .i64 tr, .int .i64 nm, .int .i64 B, .bool W, .int .i64 V, .bool bz] 86 (0, 0))) :
    Calls Try.prog 33 #[.pointer (some ⟨g, 0, none⟩)] w fun e w' => e = .returned (.tuple #[.agg #[.int .i64 B, .bool W, .int .i64 V], .bool bz]) ∧ Below w.heap.size w w' := by
  (have c0 : w.cell? ⟨g, 0, none⟩ = some (.int .i64 L) := (blk_cell hB 0).trans rfl; have c1 : w.cell? ⟨g, 1, none⟩ = some (.int .i64 T) := (blk_cell hB 1).trans rfl; have c2 : w.cell? ⟨g, 2, none⟩ = some (.bool O) := (blk_cell hB 2).trans rfl; have c3 : w.cell? ⟨g, 3, none⟩ = some (.int .i64 wt) := (blk_cell hB 3).trans rfl; have c4 : w.cell? ⟨g, 4, none⟩ = some (.int .i64 tr) := (blk_cell hB 4).trans rfl; have c5 : w.cell? ⟨g, 5, none⟩ = some (.int .i64 nm) := (blk_cell hB 5).trans rfl; have c6 : w.cell? ⟨g, 6, none⟩ = some (.int .i64 B) := (blk_cell hB 6).trans rfl; have c7 : w.cell? ⟨g, 7, none⟩ = some (.bool W) := (blk_cell hB 7).trans rfl; have c8 : w.cell? ⟨g, 8, none⟩ = some (.int .i64 V) := (blk_cell hB 8).trans rfl; have c9 : w.cell? ⟨g, 9, none⟩ = some (.bool bz) := (blk_cell hB 9).trans rfl; have cf0 : w.frozen? ⟨g, 0, none⟩ = false := blk_frozen hB 0; have cf1 : w.frozen? ⟨g, 1, none⟩ = false := blk_frozen hB 1; have cf2 : w.frozen? ⟨g, 2, none⟩ = false := blk_frozen hB 2; have cf3 : w.frozen? ⟨g, 3, none⟩ = false := blk_frozen hB 3; have cf4 : w.frozen? ⟨g, 4, none⟩ = false := blk_frozen hB 4; have cf5 : w.frozen? ⟨g, 5, none⟩ = false := blk_frozen hB 5; have cf6 : w.frozen? ⟨g, 6, none⟩ = false := blk_frozen hB 6; have cf7 : w.frozen? ⟨g, 7, none⟩ = false := blk_frozen hB 7; have cf8 : w.frozen? ⟨g, 8, none⟩ = false := blk_frozen hB 8; have cf9 : w.frozen? ⟨g, 9, none⟩ = false := blk_frozen hB 9)
  have hlt := blk_lt hB
  have hne : w.heap.size ≠ g := by omega
  clear hB
  go_enter Try.func33, Try.ntmps33
  go_wp2_with fail
  go_region_held3 (fun x => x.cell? ⟨g, 6, none⟩ = some (.int .i64 B) ∧ x.cell? ⟨g, 7, none⟩ = some (.bool W) ∧ x.cell? ⟨g, 8, none⟩ = some (.int .i64 V) ∧ x.cell? ⟨g, 9, none⟩ = some (.bool bz)) (go_keep) (fail)
  all_goals
    go_split_ands
    go_wp2
    exact bodyPost_ret (v := .tuple #[.agg #[.int .i64 B, .bool W, .int .i64 V], .bool bz]) (by simp [results, Try.results33, go_sem]) rfl ⟨rfl, by repeat (first | exact Below.refl _ _ | apply below_alloc | apply below_drew1 | exact Below.drew ?_)⟩

set_option maxHeartbeats 4000000 in
set_option maxRecDepth 100000 in
theorem copy_any (g : Nat) (L T : Int) (O : Bool) (wt tr nm B : Int) (W : Bool) (V : Int) (bz : Bool) (w : World) (hB : w.heap[g]? = some (.cells #[.int .i64 L, .int .i64 T, .bool O, .int .i64 wt, .int .i64 tr, .int .i64 nm, .int .i64 B, .bool W, .int .i64 V, .bool bz] 86 (0, 0))) :
    Calls Try.prog 36 #[.pointer (some ⟨g, 0, none⟩)] w fun e w' => e = .returned (.pointer (some ⟨w.heap.size, 0, none⟩)) ∧ w' = w.alloc (.cells #[.int .i64 L, .int .i64 T, .bool O, .int .i64 wt, .int .i64 tr, .int .i64 nm, .int .i64 B, .bool W, .int .i64 V, .bool bz] 86) := by
  (have c0 : w.cell? ⟨g, 0, none⟩ = some (.int .i64 L) := (blk_cell hB 0).trans rfl; have c1 : w.cell? ⟨g, 1, none⟩ = some (.int .i64 T) := (blk_cell hB 1).trans rfl; have c2 : w.cell? ⟨g, 2, none⟩ = some (.bool O) := (blk_cell hB 2).trans rfl; have c3 : w.cell? ⟨g, 3, none⟩ = some (.int .i64 wt) := (blk_cell hB 3).trans rfl; have c4 : w.cell? ⟨g, 4, none⟩ = some (.int .i64 tr) := (blk_cell hB 4).trans rfl; have c5 : w.cell? ⟨g, 5, none⟩ = some (.int .i64 nm) := (blk_cell hB 5).trans rfl; have c6 : w.cell? ⟨g, 6, none⟩ = some (.int .i64 B) := (blk_cell hB 6).trans rfl; have c7 : w.cell? ⟨g, 7, none⟩ = some (.bool W) := (blk_cell hB 7).trans rfl; have c8 : w.cell? ⟨g, 8, none⟩ = some (.int .i64 V) := (blk_cell hB 8).trans rfl; have c9 : w.cell? ⟨g, 9, none⟩ = some (.bool bz) := (blk_cell hB 9).trans rfl; have cf0 : w.frozen? ⟨g, 0, none⟩ = false := blk_frozen hB 0; have cf1 : w.frozen? ⟨g, 1, none⟩ = false := blk_frozen hB 1; have cf2 : w.frozen? ⟨g, 2, none⟩ = false := blk_frozen hB 2; have cf3 : w.frozen? ⟨g, 3, none⟩ = false := blk_frozen hB 3; have cf4 : w.frozen? ⟨g, 4, none⟩ = false := blk_frozen hB 4; have cf5 : w.frozen? ⟨g, 5, none⟩ = false := blk_frozen hB 5; have cf6 : w.frozen? ⟨g, 6, none⟩ = false := blk_frozen hB 6; have cf7 : w.frozen? ⟨g, 7, none⟩ = false := blk_frozen hB 7; have cf8 : w.frozen? ⟨g, 8, none⟩ = false := blk_frozen hB 8; have cf9 : w.frozen? ⟨g, 9, none⟩ = false := blk_frozen hB 9)
  clear hB
  go_enter Try.func36, Try.ntmps36
  go_wp2
  go_ret
  exact ⟨rfl, rfl⟩

end Go.Proofs.Ytedfjadgfkbfiaa.ProcW
