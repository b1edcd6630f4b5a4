/- What the reference's New and Send do, as contracts over a net in memory. -/
import Derived.Test.YtedfjadgfkbfiaaNetMore
namespace Go.Proofs.Ytedfjadgfkbfiaa.NetW
open Go.RowKit Go.Proofs.YtedfjadgfkbfiaaW.PrintWords Go.Proofs.Ytedfjadgfkbfiaa.Opens
set_option linter.unusedVariables false
set_option linter.unusedSimpArgs false
attribute [local go_sem] nil27 World.cell?_alloc_some
attribute [local go_sem high] eqA36

theorem rnew_at {r n : Int} {w0 w : World} (h : n = roomOf r) (hb : Below w0.heap.size w0 w) : NetAt 47 (roomOf r) [] (.slice none 0 0) w.heap.size w0 (w.alloc (.cells #[.int .i64 n, .slice none 0 0] 47)) := by
  subst h
  have hr := roomOf_ok r
  exact ⟨blk_new w _, OwnL.nil _ _, hb.size, ⟨hr.1, hr.2, by simpa using hr.1⟩, below_alloc hb _, by decide⟩

set_option maxHeartbeats 4000000 in
set_option maxRecDepth 100000 in
theorem rnew_any (r : Int) (w0 w : World) (hb : Below w0.heap.size w0 w) :
    Calls Try.prog 22 #[.int .i64 r] w fun e w' => e = .returned (.pointer (some ⟨w.heap.size, 0, none⟩)) ∧ NetAt 47 (roomOf r) [] (.slice none 0 0) w.heap.size w0 w' ∧ Below w.heap.size w w' := by
  go_enter Try.func22, Try.ntmps22
  go_wp2
  all_goals
    go_ret
    exact ⟨rfl, rnew_at (by unfold roomOf; omega) hb, below_alloc (Below.refl _ _) _⟩

set_option maxHeartbeats 4000000 in
set_option maxRecDepth 100000 in
theorem rsend_no {rm : Int} {xs ys : List LetR} {v : Value} {g c2 : Nat} {A2 : Option Addr} {w0 w : World} (hN : NetAt 47 rm xs v g w0 w) (hl : ys.length ≤ 4611686018427387904) (hgo : ¬ ((ys.length : Int) ≤ rm - xs.length)) :
    Calls Try.prog 23 #[.pointer (some ⟨g, 0, none⟩), .slice A2 ys.length c2] w (NPost 47 (.bool false) rm xs v g w0 w) := by
  obtain ⟨A, c, rfl, hr, hc, hn⟩ := OwnL.row hN.own
  have c0 : w.cell? ⟨g, 0, none⟩ = some (.int .i64 rm) := (blk_cell hN.blk 0).trans rfl
  have c1 : w.cell? ⟨g, 1, none⟩ = some (.slice A xs.length c) := (blk_cell hN.blk 1).trans rfl
  obtain ⟨hr1, hr2, hr3⟩ := hN.room
  have N := Aside0.mk hN
  have hw : wrap64 ((xs.length : Int) + (ys.length : Int)) = (xs.length : Int) + (ys.length : Int) := by unfold wrap64; omega
  have hw2 : IntKind.i64.wrap ((xs.length : Int) + (ys.length : Int)) = (xs.length : Int) + (ys.length : Int) := by rw [IntKind.wrap_i64]; omega
  have hgt : rm < (xs.length : Int) + (ys.length : Int) := by omega
  clear hN hr hgo
  go_enter Try.func23, Try.ntmps23
  go_wp2_with fail
  go_quiet (fail)
  go_wp2
  go_ret
  exact ⟨_, rfl, N.out.below (bdN _ _), Chg.of_below _ _ (bdN _ _), .inl rfl⟩

set_option maxHeartbeats 4000000 in
set_option maxRecDepth 100000 in
theorem rsend_yes {rm : Int} {xs ys : List LetR} {v : Value} {g c2 : Nat} {A2 : Option Addr} {w0 w : World} (hN : NetAt 47 rm xs v g w0 w) (hR : RowL w A2 ys) (hgo : (ys.length : Int) ≤ rm - xs.length) :
    Calls Try.prog 23 #[.pointer (some ⟨g, 0, none⟩), .slice A2 ys.length c2] w (NPost 47 (.bool true) rm (xs ++ ys) v g w0 w) := by
  have RR := Aside0.mk hR
  obtain ⟨A, c, rfl, hr, hc, hn⟩ := OwnL.row hN.own
  have RX := Aside0.mk hr
  have c0 : w.cell? ⟨g, 0, none⟩ = some (.int .i64 rm) := (blk_cell hN.blk 0).trans rfl
  have c1 : w.cell? ⟨g, 1, none⟩ = some (.slice A xs.length c) := (blk_cell hN.blk 1).trans rfl
  obtain ⟨hr1, hr2, hr3⟩ := hN.room
  have N := Aside0.mk hN
  have hw : wrap64 ((xs.length : Int) + (ys.length : Int)) = (xs.length : Int) + (ys.length : Int) := by unfold wrap64; omega
  have hw2 : IntKind.i64.wrap ((xs.length : Int) + (ys.length : Int)) = (xs.length : Int) + (ys.length : Int) := by rw [IntKind.wrap_i64]; omega
  have hgt : (xs.length : Int) + (ys.length : Int) ≤ rm := by omega
  have hgt2 : ¬ (rm < (xs.length : Int) + (ys.length : Int)) := by omega
  have hlt := Aside0.mk hN.lt
  clear hN hr hgo hR
  go_enter Try.func23, Try.ntmps23
  go_wp2_with fail
  go_quiet (fail)
  have B3 := Aside0.mk (show Below w.heap.size w ((w.drewN nq).alloc (.cells #[] 36)) from below_alloc (bdN w nq) (.cells #[] 36))
  have O3 := Aside0.mk (show OwnL w.heap.size (.slice (some ⟨w.heap.size, 0, none⟩) 0 0) [] ((w.drewN nq).alloc (.cells #[] 36)) from World.ownsRow_made (w.drewN nq) #[] 0 (Nat.le_refl _) (Nat.zero_le _) rfl)
  have X3 := Aside0.mk (RowL.below RX.out B3.out)
  have hs3 := Aside0.mk B3.out.size
  go_wp2_with (first | (at_builtin; refine list_app rfl (.tmp 19) (.tmp 23) rfl rfl rfl (by exact O3.out) (by exact X3.out) (by simp; omega) (by exact hs3.out) ?_; intro v1 w1 hO1 hg1 hs1; have S4 := Aside0.mk hs1; clear hs1; obtain ⟨A1, n1, k1, rfl⟩ : ∃ A n c, v1 = .slice A n c := (by obtain ⟨A, c, h, _⟩ := OwnL.row hO1; exact ⟨_, _, _, h⟩); have O4 := Aside0.mk hO1; have B4 := Aside0.mk (show Below w.heap.size w w1 from B3.out.grown hg1 hs3.out (fun k hk => (OwnL.lt O3.out k hk).1)); have R4 := Aside0.mk (RowL.below RR.out B4.out); clear hO1 hg1) | (at_builtin; refine list_app rfl (.tmp 24) (.tmp 25) rfl rfl rfl (by exact O4.out) (by exact R4.out) (by simp; omega) (by exact B4.out.size) ?_; intro v2 w2 hO2 hg2 hs2; have S5 := Aside0.mk hs2; clear hs2; obtain ⟨A5, n5, k5, rfl⟩ : ∃ A n c, v2 = .slice A n c := (by obtain ⟨A, c, h, _⟩ := OwnL.row hO2; exact ⟨_, _, _, h⟩); have O5 := Aside0.mk hO2; have B5 := Aside0.mk (show Below w.heap.size w w2 from B4.out.grown hg2 B4.out.size (fun k hk => (OwnL.lt O4.out k hk).1)); have N5 := Aside0.mk (N.out.below B5.out); clear hO2 hg2; have y1 : w2.cell? ⟨g, 1, none⟩ = some (.slice A xs.length c) := (blk_cell N5.out.blk 1).trans rfl; have z1 : w2.frozen? ⟨g, 1, none⟩ = false := blk_frozen N5.out.blk 1))
  go_ret
  have hO := OwnL.base O5.out N.out.bel.size
  have hfr : Since w.heap.size (.slice A xs.length c) (.slice A5 n5 k5) := by
    rcases S5.out with e | ⟨b, e, hb⟩
    · rcases S4.out with e' | ⟨b, e', hb⟩
      · exact .inr ⟨w.heap.size, e.trans (show _ = _ from e'), Nat.le_refl _⟩
      · exact .inr ⟨b, e.trans (show _ = _ from e'), Nat.le_trans hs3.out hb⟩
    · exact .inr ⟨b, e, Nat.le_trans B4.out.size hb⟩
  have hst := stored N.out (show OwnL w0.heap.size _ (xs ++ ys) w2 by simpa using hO) (Chg.of_below g _ B5.out) N5.out.blk hfr (by simp; omega)
  exact ⟨_, rfl, hst.1, hst.2, hfr⟩

end Go.Proofs.Ytedfjadgfkbfiaa.NetW
