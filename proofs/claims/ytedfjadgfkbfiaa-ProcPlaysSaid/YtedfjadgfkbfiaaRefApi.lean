/- The methods of the reference's Proc, over the same plain record. -/
import Derived.Test.YtedfjadgfkbfiaaRefProc
namespace Go.Proofs.Ytedfjadgfkbfiaa.ProcW
open Go.RowKit Go.Proofs.YtedfjadgfkbfiaaW.PrintWords Go.Proofs.YtedfjadgfkbfiaaW.PrintLast Go.Proofs.YtedfjadgfkbfiaaW.PrintMore Go.Proofs.Ytedfjadgfkbfiaa.Timer
set_option linter.unusedVariables false

/-- The reference's Proc with that content lies in block g. -/
def P.rat (s : P) (g : Nat) (w0 w : World) : Prop := PProcPlays.IsS78 w0 w g s.wt s.tr s.nm s.B s.W s.V s.bz s.L s.T s.O
theorem P.rkept {s : P} {g g' : Nat} {w0 w w' : World} (h : s.rat g w0 w) (hk : KeepBut w w' g' none) (hne : g ≠ g') : s.rat g w0 w' := ⟨hk.blk h.1 hne (by simp), h.2⟩
theorem P.rbelow {s : P} {g : Nat} {w0 w w' : World} (h : s.rat g w0 w) (hb : Below w.heap.size w w') : s.rat g w0 w' := ⟨blk_below h.1 hb, h.2⟩
theorem P.rlt {s : P} {g : Nat} {w0 w : World} (h : s.rat g w0 w) : g < w.heap.size := blk_lt h.1
def RPost (v : Value) (s : P) (g : Nat) (w0 w : World) (e : Ending) (w' : World) : Prop := e = .returned v ∧ s.rat g w0 w' ∧ Below w0.heap.size w0 w' ∧ KeepBut w w' g none

theorem rissue_yes {s : P} {g : Nat} {w0 w : World} (b : Int) (wr : Bool) (v : Int) (h : s.rat g w0 w) (hb : Below w0.heap.size w0 w) (hz : s.bz = false) :
    Calls Try.prog 37 #[.pointer (some ⟨g, 0, none⟩), .agg #[.int .i64 b, .bool wr, .int .i64 v]] w (RPost (.bool true) (s.issue b wr v) g w0 w) := by
  refine PProcPlays.jetonref14_Proc_Issue.calls g _ _ _ _ _ _ _ _ _ _ b wr v true _ _ _ _ _ _ _ _ _ _ w0 w h hb ?_
  by_cases hc : s.wt < 1
  · simp [PProcPlays.jetonref14_Proc_Issue.f, PProcPlays.jetonref07_Start.f, hz, P.issue, hc]
  · simp [PProcPlays.jetonref14_Proc_Issue.f, PProcPlays.jetonref07_Start.f, hz, P.issue, hc]
theorem rissue_no {s : P} {g : Nat} {w0 w : World} (b : Int) (wr : Bool) (v : Int) (h : s.rat g w0 w) (hb : Below w0.heap.size w0 w) (hz : s.bz = true) :
    Calls Try.prog 37 #[.pointer (some ⟨g, 0, none⟩), .agg #[.int .i64 b, .bool wr, .int .i64 v]] w (RPost (.bool false) s g w0 w) := by
  refine PProcPlays.jetonref14_Proc_Issue.calls g _ _ _ _ _ _ _ _ _ _ b wr v false _ _ _ _ _ _ _ _ _ _ w0 w h hb ?_
  simp [PProcPlays.jetonref14_Proc_Issue.f, hz]
theorem rfinish_yes {s : P} {g : Nat} {w0 w : World} (h : s.rat g w0 w) (hb : Below w0.heap.size w0 w) (hz : s.bz = true) :
    Calls Try.prog 38 #[.pointer (some ⟨g, 0, none⟩)] w (RPost (.tuple #[.int .i64 s.nm, .bool true]) s.finish g w0 w) := by
  refine PProcPlays.jetonref14_Proc_Finish.calls g _ _ _ _ _ _ _ _ _ _ s.nm true _ _ _ _ _ _ _ _ _ _ w0 w h hb ?_
  simp [PProcPlays.jetonref14_Proc_Finish.f, hz, P.finish]
theorem rfinish_no {s : P} {g : Nat} {w0 w : World} (h : s.rat g w0 w) (hb : Below w0.heap.size w0 w) (hz : s.bz = false) :
    Calls Try.prog 38 #[.pointer (some ⟨g, 0, none⟩)] w (RPost (.tuple #[.int .i64 0, .bool false]) s g w0 w) := by
  refine PProcPlays.jetonref14_Proc_Finish.calls g _ _ _ _ _ _ _ _ _ _ 0 false _ _ _ _ _ _ _ _ _ _ w0 w h hb ?_
  simp [PProcPlays.jetonref14_Proc_Finish.f, hz]
theorem rpinned {s : P} {g : Nat} {w0 w : World} (h : s.rat g w0 w) (hb : Below w0.heap.size w0 w) :
    Calls Try.prog 41 #[.pointer (some ⟨g, 0, none⟩)] w (RPost (.int .i64 s.pin) s g w0 w) := by
  refine (refPinned_any g s.L s.T s.O s.wt s.tr s.nm s.B s.W s.V s.bz w h.1).mono fun e w' ⟨he, hw⟩ => ?_
  subst hw
  exact ⟨he, h, hb, KeepBut.refl _ _ _⟩
theorem rtick_no {s : P} {g : Nat} {w0 w : World} (h : s.rat g w0 w) (hb : Below w0.heap.size w0 w) (hz : s.bz = false) :
    Calls Try.prog 39 #[.pointer (some ⟨g, 0, none⟩)] w (RPost (.int .i64 0) s g w0 w) := by
  have hB := h.1
  rw [hz] at hB
  refine (refTick_idle g s.L s.T s.O s.wt s.tr s.nm s.B s.W s.V w hB).mono fun e w' ⟨he, hw⟩ => ?_
  subst hw
  exact ⟨he, h, hb, KeepBut.refl _ _ _⟩
theorem rtick_yes {s : P} {g : Nat} {w0 w : World} (hf : s.fits) (h : s.rat g w0 w) (hb : Below w0.heap.size w0 w) (hz : s.bz = true) :
    Calls Try.prog 39 #[.pointer (some ⟨g, 0, none⟩)] w (RPost (.int .i64 s.what) s.tick g w0 w) := by
  have hB := h.1
  rw [hz] at hB
  refine (refTick_busy g _ _ _ _ _ _ _ _ _ w hB _ _ _ _ (fun w => refTick_any s.L s.T s.O s.wt s.tr hf.1 hf.2.1 hf.2.2.1 hf.2.2.2 w)).mono fun e w' ⟨he, hs, hm⟩ => ?_
  refine ⟨he, ⟨?_, h.2⟩, hb.trans (hm.below h.2 hb.size), hm.keep⟩
  rw [show s.tick.bz = true from hz]
  exact hs
end Go.Proofs.Ytedfjadgfkbfiaa.ProcW
