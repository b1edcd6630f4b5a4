/- The methods of proc.Proc, over a plain record of what it holds. -/
import Derived.Test.YtedfjadgfkbfiaaProcWalks
import Derived.Test.YtedfjadgfkbfiaaTimer
set_option linter.unusedVariables false
namespace Go.Proofs.Ytedfjadgfkbfiaa.ProcW
open Go.RowKit Go.Proofs.YtedfjadgfkbfiaaW.PrintWords Go.Proofs.YtedfjadgfkbfiaaW.PrintLast Go.Proofs.YtedfjadgfkbfiaaW.PrintMore Go.Proofs.Ytedfjadgfkbfiaa.Timer

/-- What a processor holds: its timer, its wait, tries and number, its operation, and whether it waits for one. -/
structure P where
  (L T : Int) (O : Bool) (wt tr nm B : Int) (W : Bool) (V : Int) (bz : Bool)

/-- It lies in block g, a block of the call's own. -/
def P.at_ (s : P) (g : Nat) (w0 w : World) : Prop := PProcPlays.IsS86 w0 w g s.L s.T s.O s.wt s.tr s.nm s.B s.W s.V s.bz
theorem P.blk {s : P} {g : Nat} {w0 w : World} (h : s.at_ g w0 w) : w.heap[g]? = some (.cells #[.int .i64 s.L, .int .i64 s.T, .bool s.O, .int .i64 s.wt, .int .i64 s.tr, .int .i64 s.nm, .int .i64 s.B, .bool s.W, .int .i64 s.V, .bool s.bz] 86 (0, 0)) := h.1
theorem P.kept {s : P} {g g' : Nat} {w0 w w' : World} (h : s.at_ g w0 w) (hk : KeepBut w w' g' none) (hne : g ≠ g') : s.at_ g w0 w' := ⟨hk.blk h.1 hne (by simp), h.2⟩
theorem P.below {s : P} {g : Nat} {w0 w w' : World} (h : s.at_ g w0 w) (hb : Below w.heap.size w w') : s.at_ g w0 w' := ⟨blk_below h.1 hb, h.2⟩
theorem P.lt {s : P} {g : Nat} {w0 w : World} (h : s.at_ g w0 w) : g < w.heap.size := blk_lt h.1
theorem Mod.keep {g : Nat} {w w' : World} (h : Mod g w w') : KeepBut w w' g none := ⟨h.2.2.2.1, fun i hi hg _ => h.2.2.2.2 i hi hg⟩

def P.new (wt tr : Int) : P := ⟨0, 0, false, wt, tr, 0, 0, false, 0, false⟩
def P.issue (s : P) (b : Int) (wr : Bool) (v : Int) : P := ⟨if s.wt < 1 then 1 else s.wt, 0, false, s.wt, s.tr, wrap64 (s.nm + 1), b, wr, v, true⟩
def P.finish (s : P) : P := ⟨s.L, s.T, s.O, s.wt, s.tr, s.nm, 0, false, 0, false⟩
def P.tick (s : P) : P := ⟨tL s.L s.T s.O s.wt s.tr, tT s.L s.T s.O s.tr, tO s.L s.T s.O s.tr, s.wt, s.tr, s.nm, s.B, s.W, s.V, s.bz⟩
def P.what (s : P) : Int := tW s.L s.T s.O s.tr
def P.fits (s : P) : Prop := (-9223372036854775808 ≤ s.L ∧ s.L ≤ 9223372036854775807) ∧ (-9223372036854775808 ≤ s.T ∧ s.T ≤ 9223372036854775807) ∧ s.wt ≤ 9223372036854775807 ∧ s.tr ≤ 9223372036854775807
theorem P.tick_fits {s : P} (h : s.fits) : s.tick.fits := by
  have := tick_bounds s.L s.T s.O s.wt s.tr h.1 h.2.1 h.2.2.2
  exact ⟨this.1, this.2, h.2.2⟩
theorem P.new_fits (wt tr : Int) (h : wt ≤ 9223372036854775807) (h' : tr ≤ 9223372036854775807) : (P.new wt tr).fits := ⟨⟨by simp only [P.new]; omega, by simp only [P.new]; omega⟩, ⟨by simp only [P.new]; omega, by simp only [P.new]; omega⟩, h, h'⟩
theorem P.issue_fits {s : P} (h : s.fits) (b : Int) (wr : Bool) (v : Int) : (s.issue b wr v).fits := by
  obtain ⟨h1, h2, h3, h4⟩ := h
  refine ⟨?_, ⟨by simp only [P.issue]; omega, by simp only [P.issue]; omega⟩, h3, h4⟩
  simp only [P.issue]
  split <;> omega
theorem P.finish_fits {s : P} (h : s.fits) : s.finish.fits := h

/-- A value is told; the processor in block g is s; all that was there ahead of the law's call is as it was, and all but block g as it was ahead of this call. -/
def Post (v : Value) (s : P) (g : Nat) (w0 w : World) (e : Ending) (w' : World) : Prop := e = .returned v ∧ s.at_ g w0 w' ∧ Below w0.heap.size w0 w' ∧ KeepBut w w' g none

theorem new_any (wt tr : Int) (w0 w : World) (hb : Below w0.heap.size w0 w) : Calls Try.prog 29 #[.int .i64 wt, .int .i64 tr] w fun e w' => ∃ g, e = .returned (.pointer (some ⟨g, 0, none⟩)) ∧ (P.new wt tr).at_ g w0 w' ∧ Below w0.heap.size w0 w' ∧ Below w.heap.size w w' ∧ w.heap.size ≤ g := by
  refine (PProcPlays.proc_New.calls wt tr 0 0 false wt tr 0 0 false 0 false w w (Below.refl _ _) rfl).mono fun e w' ⟨g, he, hI, _, hb2⟩ => ?_
  exact ⟨g, he, ⟨hI.1, Nat.le_trans hb.size hI.2⟩, hb.trans (hb2.mono hb.size), hb2, hI.2⟩
theorem issue_yes {s : P} {g : Nat} {w0 w : World} (b : Int) (wr : Bool) (v : Int) (h : s.at_ g w0 w) (hb : Below w0.heap.size w0 w) (hz : s.bz = false) :
    Calls Try.prog 30 #[.pointer (some ⟨g, 0, none⟩), .agg #[.int .i64 b, .bool wr, .int .i64 v]] w (Post (.bool true) (s.issue b wr v) g w0 w) := by
  refine PProcPlays.proc_Proc_Issue.calls g _ _ _ _ _ _ _ _ _ _ b wr v true _ _ _ _ _ _ _ _ _ _ w0 w h hb ?_
  simp [PProcPlays.proc_Proc_Issue.f, PProcPlays.timer_Start.f, hz, P.issue, mx]
theorem issue_no {s : P} {g : Nat} {w0 w : World} (b : Int) (wr : Bool) (v : Int) (h : s.at_ g w0 w) (hb : Below w0.heap.size w0 w) (hz : s.bz = true) :
    Calls Try.prog 30 #[.pointer (some ⟨g, 0, none⟩), .agg #[.int .i64 b, .bool wr, .int .i64 v]] w (Post (.bool false) s g w0 w) := by
  refine PProcPlays.proc_Proc_Issue.calls g _ _ _ _ _ _ _ _ _ _ b wr v false _ _ _ _ _ _ _ _ _ _ w0 w h hb ?_
  simp [PProcPlays.proc_Proc_Issue.f, hz]
theorem finish_yes {s : P} {g : Nat} {w0 w : World} (h : s.at_ g w0 w) (hb : Below w0.heap.size w0 w) (hz : s.bz = true) :
    Calls Try.prog 34 #[.pointer (some ⟨g, 0, none⟩)] w (Post (.tuple #[.int .i64 s.nm, .bool true]) s.finish g w0 w) := by
  refine PProcPlays.proc_Proc_Finish.calls g _ _ _ _ _ _ _ _ _ _ s.nm true _ _ _ _ _ _ _ _ _ _ w0 w h hb ?_
  simp [PProcPlays.proc_Proc_Finish.f, hz, P.finish]
theorem finish_no {s : P} {g : Nat} {w0 w : World} (h : s.at_ g w0 w) (hb : Below w0.heap.size w0 w) (hz : s.bz = false) :
    Calls Try.prog 34 #[.pointer (some ⟨g, 0, none⟩)] w (Post (.tuple #[.int .i64 0, .bool false]) s g w0 w) := by
  refine PProcPlays.proc_Proc_Finish.calls g _ _ _ _ _ _ _ _ _ _ 0 false _ _ _ _ _ _ _ _ _ _ w0 w h hb ?_
  simp [PProcPlays.proc_Proc_Finish.f, hz]
theorem pinned_yes {s : P} {g : Nat} {w0 w : World} (h : s.at_ g w0 w) (hb : Below w0.heap.size w0 w) (hz : s.bz = true) :
    Calls Try.prog 40 #[.pointer (some ⟨g, 0, none⟩)] w (Post (.int .i64 s.B) s g w0 w) := by
  refine PProcPlays.proc_Proc_Pinned.calls g _ _ _ _ _ _ _ _ _ _ s.B _ _ _ _ _ _ _ _ _ _ w0 w h hb ?_
  simp [PProcPlays.proc_Proc_Pinned.f, hz]
theorem pinned_no {s : P} {g : Nat} {w0 w : World} (h : s.at_ g w0 w) (hb : Below w0.heap.size w0 w) (hz : s.bz = false) :
    Calls Try.prog 40 #[.pointer (some ⟨g, 0, none⟩)] w (Post (.int .i64 (-1)) s g w0 w) := by
  refine PProcPlays.proc_Proc_Pinned.calls g _ _ _ _ _ _ _ _ _ _ (-1) _ _ _ _ _ _ _ _ _ _ w0 w h hb ?_
  simp [PProcPlays.proc_Proc_Pinned.f, hz]
theorem post_of_mod {v : Value} {s : P} {g : Nat} {w0 w w' : World} {e : Ending} (he : e = .returned v) (hg : w0.heap.size ≤ g) (hb : Below w0.heap.size w0 w) (hs : w'.heap[g]? = some (.cells #[.int .i64 s.L, .int .i64 s.T, .bool s.O, .int .i64 s.wt, .int .i64 s.tr, .int .i64 s.nm, .int .i64 s.B, .bool s.W, .int .i64 s.V, .bool s.bz] 86 (0, 0))) (hm : Mod g w w') : Post v s g w0 w e w' :=
  ⟨he, ⟨hs, hg⟩, hb.trans (hm.below hg hb.size), hm.keep⟩
theorem tick_yes {s : P} {g : Nat} {w0 w : World} (hf : s.fits) (h : s.at_ g w0 w) (hb : Below w0.heap.size w0 w) (hz : s.bz = true) :
    Calls Try.prog 32 #[.pointer (some ⟨g, 0, none⟩)] w (Post (.int .i64 s.what) s.tick g w0 w) := by
  have hB := h.1
  rw [hz] at hB
  refine (tick_busy g _ _ _ _ _ _ _ _ _ w hB _ _ _ _ (fun w => tick_any s.L s.T s.O s.wt s.tr hf.1 hf.2.1 hf.2.2.1 hf.2.2.2 w)).mono fun e w' ⟨he, hs, hm⟩ => ?_
  refine post_of_mod he h.2 hb ?_ hm
  rw [show s.tick.bz = true from hz]
  exact hs
theorem tick_no {s : P} {g : Nat} {w0 w : World} (h : s.at_ g w0 w) (hb : Below w0.heap.size w0 w) (hz : s.bz = false) :
    Calls Try.prog 32 #[.pointer (some ⟨g, 0, none⟩)] w (Post (.int .i64 0) s g w0 w) := by
  have hB := h.1
  rw [hz] at hB
  refine (tick_idle g _ _ _ _ _ _ _ _ _ w hB).mono fun e w' ⟨he, hw⟩ => ?_
  subst hw
  exact ⟨he, h, hb, KeepBut.refl _ _ _⟩
theorem pend {s : P} {g : Nat} {w0 w : World} (h : s.at_ g w0 w) (hb : Below w0.heap.size w0 w) :
    Calls Try.prog 33 #[.pointer (some ⟨g, 0, none⟩)] w (Post (.tuple #[.agg #[.int .i64 s.B, .bool s.W, .int .i64 s.V], .bool s.bz]) s g w0 w) :=
  (pending_any g _ _ _ _ _ _ _ _ _ _ w h.1).mono fun e w' ⟨he, hw⟩ => ⟨he, h.below hw, hb.trans (hw.mono hb.size), KeepBut.of_below hw _ _⟩

def RB (b : Bool) (w : World) (e : Ending) (w' : World) : Prop := e = .returned (.bool b) ∧ Below w.heap.size w w'

set_option maxHeartbeats 4000000 in
set_option maxRecDepth 100000 in
theorem awake_any (w : World) : Calls Try.prog 28 #[] w (RB true w) := by
  have Hb := Aside0.mk (Below.refl w.heap.size w)
  go_enter Try.func28, Try.ntmps28
  go_wp2_with fail
  refine (new_any 1 0 w _ Hb.out).mono ?_
  rintro e w1 ⟨g, rfl, hs, hb1, -, -⟩
  have S1 := Aside0.mk hs
  have B1 := Aside0.mk hb1
  clear hs hb1
  go_wp2_with fail
  refine (pinned_no S1.out B1.out rfl).mono ?_
  rintro e w2 ⟨rfl, hs, hb1, -⟩
  have S2 := Aside0.mk hs
  have B2 := Aside0.mk hb1
  clear hs hb1
  go_wp2_with fail
  refine (issue_yes 4 false 0 S2.out B2.out rfl).mono ?_
  rintro e w3 ⟨rfl, hs, hb1, -⟩
  have S3 := Aside0.mk hs
  have B3 := Aside0.mk hb1
  clear hs hb1
  go_wp2_with fail
  refine (issue_no 0 false 0 S3.out B3.out rfl).mono ?_
  rintro e w4 ⟨rfl, hs, hb1, -⟩
  have S4 := Aside0.mk hs
  have B4 := Aside0.mk hb1
  clear hs hb1
  have hf : ((P.new 1 0).issue 4 false 0).fits := P.issue_fits (P.new_fits 1 0 (by omega) (by omega)) 4 false 0
  have F := Aside0.mk hf
  clear hf
  go_wp2_with fail
  have h5 := tick_yes F.out S4.out B4.out rfl
  rw [show ((P.new 1 0).issue 4 false 0).what = 2 from rfl] at h5
  refine h5.mono ?_
  clear h5
  rintro e w5 ⟨rfl, hs, hb1, -⟩
  have S5 := Aside0.mk hs
  have B5 := Aside0.mk hb1
  clear hs hb1
  have F2 := Aside0.mk (P.tick_fits F.out)
  go_wp2_with fail
  have h6 := tick_yes F2.out S5.out B5.out rfl
  rw [show ((P.new 1 0).issue 4 false 0).tick.what = 0 from rfl] at h6
  refine h6.mono ?_
  clear h6
  rintro e w6 ⟨rfl, hs, hb1, -⟩
  have S6 := Aside0.mk hs
  have B6 := Aside0.mk hb1
  clear hs hb1
  go_wp2_with fail
  have h7 := pinned_yes S6.out B6.out rfl
  rw [show ((P.new 1 0).issue 4 false 0).tick.tick.B = 4 from rfl] at h7
  refine h7.mono ?_
  clear h7
  rintro e w7 ⟨rfl, hs, hb1, -⟩
  have S7 := Aside0.mk hs
  have B7 := Aside0.mk hb1
  clear hs hb1
  go_wp2_with fail
  have h8 := finish_yes S7.out B7.out rfl
  rw [show ((P.new 1 0).issue 4 false 0).tick.tick.nm = 1 by kernel_rfl] at h8
  refine h8.mono ?_
  clear h8
  rintro e w8 ⟨rfl, hs, hb1, -⟩
  have S8 := Aside0.mk hs
  have B8 := Aside0.mk hb1
  clear hs hb1
  go_wp2_with fail
  have h9 := finish_no S8.out B8.out rfl
  refine h9.mono ?_
  clear h9
  rintro e w9 ⟨rfl, hs, hb1, -⟩
  have S9 := Aside0.mk hs
  have B9 := Aside0.mk hb1
  clear hs hb1
  go_wp2
  go_ret
  exact ⟨rfl, B9.out⟩
end Go.Proofs.Ytedfjadgfkbfiaa.ProcW
