/- What a call of jetonlaw14's do comes to. -/
import Derived.Test.YtedfjadgfkbfiaaProcApi
import Derived.Test.YtedfjadgfkbfiaaSlices
namespace Go.Proofs.Ytedfjadgfkbfiaa.ProcW
open Go.RowKit Go.Proofs.YtedfjadgfkbfiaaW.PrintWords Go.Proofs.YtedfjadgfkbfiaaW.PrintLast Go.Proofs.YtedfjadgfkbfiaaW.PrintMore Go.Proofs.Ytedfjadgfkbfiaa.Timer Go.Proofs.Ytedfjadgfkbfiaa.Aid Go.Proofs.Ytedfjadgfkbfiaa.Opens
set_option linter.unusedVariables false
set_option linter.unusedSimpArgs false

/-- The block of the operation that is waited for; -1. -/
def P.pin (s : P) : Int := if s.bz = true then s.B else -1
/-- The processor behind a call; what the call tells. -/
def P.act (a : ActR) (s : P) : P :=
  if a.1 = 1 then (if s.bz = true then s else s.issue a.2.1 a.2.2.1 a.2.2.2) else if a.1 = 2 then (if s.bz = true then s.finish else s) else if a.1 = 3 then (if s.bz = true then s.tick else s) else s
def P.tells (a : ActR) (s : P) : Int :=
  if a.1 = 1 then (s.act a).pin else if a.1 = 2 then (if s.bz = true then s.nm else 0) else if a.1 = 3 then (if s.bz = true then s.what else 0) else s.pin
theorem P.act_fits {s : P} (a : ActR) (h : s.fits) : (s.act a).fits := by
  unfold P.act
  (repeat' split) <;> first | exact h | exact P.issue_fits h _ _ _ | exact P.finish_fits h | exact P.tick_fits h
theorem pinned_any {s : P} {g : Nat} {w0 w : World} (h : s.at_ g w0 w) (hb : Below w0.heap.size w0 w) :
    Calls Try.prog 40 #[.pointer (some ⟨g, 0, none⟩)] w (Post (.int .i64 s.pin) s g w0 w) := by
  by_cases hz : s.bz = true
  · rw [show s.pin = s.B from if_pos hz]; exact pinned_yes h hb hz
  · rw [show s.pin = -1 from if_neg hz]; exact pinned_no h hb (by simpa using hz)

/-- The end of a walk of do: the box of the call lies behind, the processor is told. -/
theorem post_box {v : Value} {s : P} {g : Nat} {w0 w w' : World} {o : Obj} {e : Ending} (hp : Post v s g w0 (w.alloc o) e w') : KeepBut w w' g none :=
  ⟨Nat.le_trans (by simp) hp.2.2.2.1, fun i hi hg hr => (hp.2.2.2.2 i (by simp; omega) hg hr).trans (Below.heap_alloc w o i hi)⟩

theorem KeepBut.alloc_left {w w' : World} {g : Nat} {o : Obj} (h : KeepBut (w.alloc o) w' g none) : KeepBut w w' g none :=
  ⟨Nat.le_trans (by simp) h.1, fun i hi hg hr => (h.2 i (by simp; omega) hg hr).trans (Below.heap_alloc w o i hi)⟩
theorem KeepBut.tr {a b c : World} {g : Nat} (h : KeepBut a b g none) (k : KeepBut b c g none) : KeepBut a c g none := h.trans k (.inl rfl)

set_option maxHeartbeats 4000000 in
set_option maxRecDepth 100000 in
theorem do_any (k b v : Int) (wr : Bool) {s : P} {g : Nat} {w0 w : World} (hf : s.fits) (h : s.at_ g w0 w) (hb : Below w0.heap.size w0 w) :
    Calls Try.prog 35 #[.pointer (some ⟨g, 0, none⟩), .agg #[.int .i64 k, .int .i64 b, .bool wr, .int .i64 v]] w (Post (.int .i64 (s.tells (k, b, wr, v))) (s.act (k, b, wr, v)) g w0 w) := by
  have S := Aside0.mk (P.below h (below_alloc (Below.refl _ _) (.cells #[.int .i64 k, .int .i64 b, .bool wr, .int .i64 v] 69)))
  have B := Aside0.mk (show Below w0.heap.size w0 (w.alloc (.cells #[.int .i64 k, .int .i64 b, .bool wr, .int .i64 v] 69)) from hb.alloc hb.size _)
  have F := Aside0.mk hf
  clear h hb hf
  by_cases h1 : k = 1
  · have e1 : (k == 1) = true := beq_iff_eq.2 h1
    cases hz : s.bz with
    | true =>
      rw [show s.act (k, b, wr, v) = s by simp [P.act, h1, hz], show s.tells (k, b, wr, v) = s.pin by simp [P.tells, P.act, h1, hz]]
      have hc := issue_no b wr v S.out B.out hz
      clear h1 hz
      go_enter Try.func35, Try.ntmps35
      go_wp2_with fail
      refine hc.mono ?_
      clear hc
      rintro e w1 ⟨rfl, hs, hb1, hk1⟩
      have S1 := Aside0.mk hs
      have B1 := Aside0.mk hb1
      have K1 := Aside0.mk (KeepBut.alloc_left hk1)
      clear hs hb1 hk1
      go_wp2_with fail
      refine (pinned_any S1.out B1.out).mono ?_
      rintro e w2 ⟨rfl, hs, hb1, hk1⟩
      have S2 := Aside0.mk hs
      have B2 := Aside0.mk hb1
      have K2 := Aside0.mk (KeepBut.tr K1.out hk1)
      clear hs hb1 hk1
      go_wp2
      go_ret
      exact ⟨rfl, S2.out, B2.out, K2.out⟩
    | false =>
      rw [show s.act (k, b, wr, v) = s.issue b wr v by simp [P.act, h1, hz], show s.tells (k, b, wr, v) = (s.issue b wr v).pin by simp [P.tells, P.act, h1, hz]]
      have hc := issue_yes b wr v S.out B.out hz
      clear h1 hz
      go_enter Try.func35, Try.ntmps35
      go_wp2_with fail
      refine hc.mono ?_
      clear hc
      rintro e w1 ⟨rfl, hs, hb1, hk1⟩
      have S1 := Aside0.mk hs
      have B1 := Aside0.mk hb1
      have K1 := Aside0.mk (KeepBut.alloc_left hk1)
      clear hs hb1 hk1
      go_wp2_with fail
      refine (pinned_any S1.out B1.out).mono ?_
      rintro e w2 ⟨rfl, hs, hb1, hk1⟩
      have S2 := Aside0.mk hs
      have B2 := Aside0.mk hb1
      have K2 := Aside0.mk (KeepBut.tr K1.out hk1)
      clear hs hb1 hk1
      go_wp2
      go_ret
      exact ⟨rfl, S2.out, B2.out, K2.out⟩
  · have e1 : (k == 1) = false := beq_eq_false_iff_ne.2 h1
    by_cases h2 : k = 2
    · have e2 : (k == 2) = true := beq_iff_eq.2 h2
      cases hz : s.bz with
      | true =>
        rw [show s.act (k, b, wr, v) = s.finish by simp [P.act, h1, h2, hz], show s.tells (k, b, wr, v) = s.nm by simp [P.tells, h1, h2, hz]]
        have hc := finish_yes S.out B.out hz
        clear h1 h2 hz
        go_enter Try.func35, Try.ntmps35
        go_wp2_with fail
        refine hc.mono ?_
        clear hc
        rintro e w1 ⟨rfl, hs, hb1, hk1⟩
        have S1 := Aside0.mk hs
        have B1 := Aside0.mk hb1
        have K1 := Aside0.mk (KeepBut.alloc_left hk1)
        clear hs hb1 hk1
        go_wp2
        go_ret
        exact ⟨rfl, S1.out, B1.out, K1.out⟩
      | false =>
        rw [show s.act (k, b, wr, v) = s by simp [P.act, h1, h2, hz], show s.tells (k, b, wr, v) = 0 by simp [P.tells, h1, h2, hz]]
        have hc := finish_no S.out B.out hz
        clear h1 h2 hz
        go_enter Try.func35, Try.ntmps35
        go_wp2_with fail
        refine hc.mono ?_
        clear hc
        rintro e w1 ⟨rfl, hs, hb1, hk1⟩
        have S1 := Aside0.mk hs
        have B1 := Aside0.mk hb1
        have K1 := Aside0.mk (KeepBut.alloc_left hk1)
        clear hs hb1 hk1
        go_wp2
        go_ret
        exact ⟨rfl, S1.out, B1.out, K1.out⟩
    · have e2 : (k == 2) = false := beq_eq_false_iff_ne.2 h2
      by_cases h3 : k = 3
      · have e3 : (k == 3) = true := beq_iff_eq.2 h3
        cases hz : s.bz with
        | true =>
          rw [show s.act (k, b, wr, v) = s.tick by simp [P.act, h1, h2, h3, hz], show s.tells (k, b, wr, v) = s.what by simp [P.tells, h1, h2, h3, hz]]
          have hc := tick_yes F.out S.out B.out hz
          clear h1 h2 h3 hz
          go_enter Try.func35, Try.ntmps35
          go_wp2_with fail
          refine hc.mono ?_
          clear hc
          rintro e w1 ⟨rfl, hs, hb1, hk1⟩
          have S1 := Aside0.mk hs
          have B1 := Aside0.mk hb1
          have K1 := Aside0.mk (KeepBut.alloc_left hk1)
          clear hs hb1 hk1
          go_wp2
          go_ret
          exact ⟨rfl, S1.out, B1.out, K1.out⟩
        | false =>
          rw [show s.act (k, b, wr, v) = s by simp [P.act, h1, h2, h3, hz], show s.tells (k, b, wr, v) = 0 by simp [P.tells, h1, h2, h3, hz]]
          have hc := tick_no S.out B.out hz
          clear h1 h2 h3 hz
          go_enter Try.func35, Try.ntmps35
          go_wp2_with fail
          refine hc.mono ?_
          clear hc
          rintro e w1 ⟨rfl, hs, hb1, hk1⟩
          have S1 := Aside0.mk hs
          have B1 := Aside0.mk hb1
          have K1 := Aside0.mk (KeepBut.alloc_left hk1)
          clear hs hb1 hk1
          go_wp2
          go_ret
          exact ⟨rfl, S1.out, B1.out, K1.out⟩
      · have e3 : (k == 3) = false := beq_eq_false_iff_ne.2 h3
        rw [show s.act (k, b, wr, v) = s by simp [P.act, h1, h2, h3], show s.tells (k, b, wr, v) = s.pin by simp [P.tells, h1, h2, h3]]
        have hc := pinned_any S.out B.out
        clear h1 h2 h3
        go_enter Try.func35, Try.ntmps35
        go_wp2_with fail
        refine hc.mono ?_
        clear hc
        rintro e w1 ⟨rfl, hs, hb1, hk1⟩
        have S1 := Aside0.mk hs
        have B1 := Aside0.mk hb1
        have K1 := Aside0.mk (KeepBut.alloc_left hk1)
        clear hs hb1 hk1
        go_wp2
        go_ret
        exact ⟨rfl, S1.out, B1.out, K1.out⟩
end Go.Proofs.Ytedfjadgfkbfiaa.ProcW
