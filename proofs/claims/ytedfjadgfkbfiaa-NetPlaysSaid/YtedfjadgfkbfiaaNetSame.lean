/- jetonref04's Same: are two rows of letters the same? -/
import Derived.Test.YtedfjadgfkbfiaaNetLib
import Derived.Deep.QuietTactic
import Derived.Deep.LoopGhost
namespace Go.Proofs.Ytedfjadgfkbfiaa.NetW
open Go.RowKit Go.Proofs.YtedfjadgfkbfiaaW.PrintWords Go.Proofs.Ytedfjadgfkbfiaa.Opens
set_option linter.unusedVariables false
set_option linter.unusedSimpArgs false
attribute [local go_sem] nil27 World.cell?_alloc_some
attribute [local go_sem high] eqA36

theorem below_drewN (w : World) (n : Nat) : Below w.heap.size w (w.drewN n) := ⟨rfl, rfl, rfl, Nat.le_refl _, fun _ _ => rfl⟩
theorem let_eq (k1 f1 t1 b1 s1 wh1 c1 d1 k2 f2 t2 b2 s2 wh2 c2 d2 : Int) (wr1 o1 h1 wr2 o2 h2 : Bool) : ((k1 == k2 && (f1 == f2 && (t1 == t2 && (b1 == b2 && (s1 == s2 && (wh1 == wh2 && (wr1 == wr2 && (c1 == c2 && (o1 == o2 && (h1 == h2 && (d1 == d2)))))))))))) = true ↔ ((k1, f1, t1, b1, s1, wh1, wr1, c1, o1, h1, d1) : LetR) = (k2, f2, t2, b2, s2, wh2, wr2, c2, o2, h2, d2) := by
  simp [Prod.mk.injEq]

set_option maxHeartbeats 4000000 in
set_option maxRecDepth 100000 in
theorem same_any {A B : Option Addr} {xs ys : List LetR} {c1 c2 : Nat} {w : World} (hX : RowL w A xs) (hY : RowL w B ys) (hl : xs.length ≤ 9223372036854775807) (hl2 : ys.length ≤ 9223372036854775807) :
    Calls Try.prog 19 #[.slice A xs.length c1, .slice B ys.length c2] w fun e w' => ∃ r : Bool, e = .returned (.bool r) ∧ (r = true ↔ xs = ys) ∧ Below w.heap.size w w' := by
  have X := Aside0.mk hX
  have Y := Aside0.mk hY
  clear hX hY
  by_cases hne : xs.length = ys.length
  · have L := Aside0.mk hne
    rw [show (Value.slice B ys.length c2) = .slice B xs.length c2 by rw [hne]]
    clear hne hl2
    go_enter Try.func19, Try.ntmps19
    go_wp2_with fail
    go_loopw [5] (fun v5 wz => ∃ i : Nat, v5 = .int .i64 i ∧ i ≤ xs.length ∧ Aside0 (xs.take i = ys.take i) ∧ Aside0 (Below w.heap.size w wz)) (fun v5 _ => xs.length - (intOf v5).toNat)
    case atStart => exact ⟨0, rfl, Nat.zero_le _, ⟨rfl⟩, ⟨Below.refl _ _⟩⟩
    case round =>
      obtain ⟨wz, rfl⟩ : ∃ wz : World, wz = wr := ⟨_, rfl⟩
      obtain ⟨i, rfl, hi, E, BB⟩ := hrel
      by_cases hlt : i < xs.length
      · have hq : (i : Int) < (xs.length : Int) := by omega
        have hq0 : (0 : Int) ≤ (i : Int) := by omega
        obtain ⟨ad1, rfl, h1⟩ := (RowL.below X.out BB.out) i hlt
        obtain ⟨ad2, rfl, h2⟩ := (RowL.below Y.out BB.out) i (by have := L.out; omega)
        have g1 : ∀ j, j < 11 → wz.cell? ((ad1.add (i * 11)).add j) = (letCells (xs.getD i l0))[j]? := fun j hj => by rw [Go.Deep.add_add]; exact h1 j hj
        have g2 : ∀ j, j < 11 → wz.cell? ((ad2.add (i * 11)).add j) = (letCells (ys.getD i l0))[j]? := fun j hj => by rw [Go.Deep.add_add]; exact h2 j hj
        clear h1 h2
        by_cases hxy : xs.getD i l0 = ys.getD i l0
        · have HT := Aside0.mk (show xs.take (i + 1) = ys.take (i + 1) from by
            have e1 := E.out
            have hx : xs[i]? = some (xs.getD i l0) := by simp [List.getD_eq_getElem?_getD, hlt]
            have hy : ys[i]? = some (ys.getD i l0) := by have := L.out; simp [List.getD_eq_getElem?_getD, show i < ys.length by omega]
            rw [List.take_add_one, List.take_add_one, e1, hx, hy, hxy])
          rw [← hxy] at g2
          clear hxy
          generalize xs.getD i l0 = l at *
          obtain ⟨k, f, t, b, s, wh, wr, c, o, h, d⟩ := l
          simp only [letCells] at g1 g2
          have e0 : wz.cell? (ad1.add (i * 11)) = some (.int .i64 k) := by simpa [Addr.add] using g1 0 (by omega)
          have e1 : wz.cell? (⟨(ad1.add (i * 11)).block, (ad1.add (i * 11)).off + 1, none⟩) = some (.int .i64 f) := by simpa [Addr.add] using g1 1 (by omega)
          have e2 : wz.cell? (⟨(ad1.add (i * 11)).block, (ad1.add (i * 11)).off + 2, none⟩) = some (.int .i64 t) := by simpa [Addr.add] using g1 2 (by omega)
          have e3 : wz.cell? (⟨(ad1.add (i * 11)).block, (ad1.add (i * 11)).off + 3, none⟩) = some (.int .i64 b) := by simpa [Addr.add] using g1 3 (by omega)
          have e4 : wz.cell? (⟨(ad1.add (i * 11)).block, (ad1.add (i * 11)).off + 4, none⟩) = some (.int .i64 s) := by simpa [Addr.add] using g1 4 (by omega)
          have e5 : wz.cell? (⟨(ad1.add (i * 11)).block, (ad1.add (i * 11)).off + 5, none⟩) = some (.int .i64 wh) := by simpa [Addr.add] using g1 5 (by omega)
          have e6 : wz.cell? (⟨(ad1.add (i * 11)).block, (ad1.add (i * 11)).off + 6, none⟩) = some (.bool wr) := by simpa [Addr.add] using g1 6 (by omega)
          have e7 : wz.cell? (⟨(ad1.add (i * 11)).block, (ad1.add (i * 11)).off + 7, none⟩) = some (.int .i64 c) := by simpa [Addr.add] using g1 7 (by omega)
          have e8 : wz.cell? (⟨(ad1.add (i * 11)).block, (ad1.add (i * 11)).off + 8, none⟩) = some (.bool o) := by simpa [Addr.add] using g1 8 (by omega)
          have e9 : wz.cell? (⟨(ad1.add (i * 11)).block, (ad1.add (i * 11)).off + 9, none⟩) = some (.bool h) := by simpa [Addr.add] using g1 9 (by omega)
          have e10 : wz.cell? (⟨(ad1.add (i * 11)).block, (ad1.add (i * 11)).off + 10, none⟩) = some (.int .i64 d) := by simpa [Addr.add] using g1 10 (by omega)
          have q0 : wz.cell? (ad2.add (i * 11)) = some (.int .i64 k) := by simpa [Addr.add] using g2 0 (by omega)
          have q1 : wz.cell? (⟨(ad2.add (i * 11)).block, (ad2.add (i * 11)).off + 1, none⟩) = some (.int .i64 f) := by simpa [Addr.add] using g2 1 (by omega)
          have q2 : wz.cell? (⟨(ad2.add (i * 11)).block, (ad2.add (i * 11)).off + 2, none⟩) = some (.int .i64 t) := by simpa [Addr.add] using g2 2 (by omega)
          have q3 : wz.cell? (⟨(ad2.add (i * 11)).block, (ad2.add (i * 11)).off + 3, none⟩) = some (.int .i64 b) := by simpa [Addr.add] using g2 3 (by omega)
          have q4 : wz.cell? (⟨(ad2.add (i * 11)).block, (ad2.add (i * 11)).off + 4, none⟩) = some (.int .i64 s) := by simpa [Addr.add] using g2 4 (by omega)
          have q5 : wz.cell? (⟨(ad2.add (i * 11)).block, (ad2.add (i * 11)).off + 5, none⟩) = some (.int .i64 wh) := by simpa [Addr.add] using g2 5 (by omega)
          have q6 : wz.cell? (⟨(ad2.add (i * 11)).block, (ad2.add (i * 11)).off + 6, none⟩) = some (.bool wr) := by simpa [Addr.add] using g2 6 (by omega)
          have q7 : wz.cell? (⟨(ad2.add (i * 11)).block, (ad2.add (i * 11)).off + 7, none⟩) = some (.int .i64 c) := by simpa [Addr.add] using g2 7 (by omega)
          have q8 : wz.cell? (⟨(ad2.add (i * 11)).block, (ad2.add (i * 11)).off + 8, none⟩) = some (.bool o) := by simpa [Addr.add] using g2 8 (by omega)
          have q9 : wz.cell? (⟨(ad2.add (i * 11)).block, (ad2.add (i * 11)).off + 9, none⟩) = some (.bool h) := by simpa [Addr.add] using g2 9 (by omega)
          have q10 : wz.cell? (⟨(ad2.add (i * 11)).block, (ad2.add (i * 11)).off + 10, none⟩) = some (.int .i64 d) := by simpa [Addr.add] using g2 10 (by omega)
          clear g1 g2
          go_wp2_with fail
          go_quiet (fail)
          go_wp2
          go_roundw
          case rel => exact ⟨i + 1, by go_num, by omega, HT, ⟨BB.out.trans ((below_drewN _ _).mono BB.out.size)⟩⟩
          case measure => simp [intOf]; omega
        · have HF := Aside0.mk (show xs ≠ ys from fun e => hxy (by rw [e]))
          generalize xs.getD i l0 = l at *
          generalize ys.getD i l0 = l' at *
          obtain ⟨k1, f1, t1, b1, s1, wh1, wr1, c1, o1, h1, d1⟩ := l
          obtain ⟨k2, f2, t2, b2, s2, wh2, wr2, c2, o2, h2, d2⟩ := l'
          have hout : ((k1 == k2 && (f1 == f2 && (t1 == t2 && (b1 == b2 && (s1 == s2 && (wh1 == wh2 && (wr1 == wr2 && (c1 == c2 && (o1 == o2 && (h1 == h2 && (d1 == d2)))))))))))) = false := by rw [← Bool.not_eq_true]; exact fun e => hxy (let_eq .. |>.1 e)
          clear hxy
          simp only [letCells] at g1 g2
          have e0 : wz.cell? (ad1.add (i * 11)) = some (.int .i64 k1) := by simpa [Addr.add] using g1 0 (by omega)
          have e1 : wz.cell? (⟨(ad1.add (i * 11)).block, (ad1.add (i * 11)).off + 1, none⟩) = some (.int .i64 f1) := by simpa [Addr.add] using g1 1 (by omega)
          have e2 : wz.cell? (⟨(ad1.add (i * 11)).block, (ad1.add (i * 11)).off + 2, none⟩) = some (.int .i64 t1) := by simpa [Addr.add] using g1 2 (by omega)
          have e3 : wz.cell? (⟨(ad1.add (i * 11)).block, (ad1.add (i * 11)).off + 3, none⟩) = some (.int .i64 b1) := by simpa [Addr.add] using g1 3 (by omega)
          have e4 : wz.cell? (⟨(ad1.add (i * 11)).block, (ad1.add (i * 11)).off + 4, none⟩) = some (.int .i64 s1) := by simpa [Addr.add] using g1 4 (by omega)
          have e5 : wz.cell? (⟨(ad1.add (i * 11)).block, (ad1.add (i * 11)).off + 5, none⟩) = some (.int .i64 wh1) := by simpa [Addr.add] using g1 5 (by omega)
          have e6 : wz.cell? (⟨(ad1.add (i * 11)).block, (ad1.add (i * 11)).off + 6, none⟩) = some (.bool wr1) := by simpa [Addr.add] using g1 6 (by omega)
          have e7 : wz.cell? (⟨(ad1.add (i * 11)).block, (ad1.add (i * 11)).off + 7, none⟩) = some (.int .i64 c1) := by simpa [Addr.add] using g1 7 (by omega)
          have e8 : wz.cell? (⟨(ad1.add (i * 11)).block, (ad1.add (i * 11)).off + 8, none⟩) = some (.bool o1) := by simpa [Addr.add] using g1 8 (by omega)
          have e9 : wz.cell? (⟨(ad1.add (i * 11)).block, (ad1.add (i * 11)).off + 9, none⟩) = some (.bool h1) := by simpa [Addr.add] using g1 9 (by omega)
          have e10 : wz.cell? (⟨(ad1.add (i * 11)).block, (ad1.add (i * 11)).off + 10, none⟩) = some (.int .i64 d1) := by simpa [Addr.add] using g1 10 (by omega)
          have q0 : wz.cell? (ad2.add (i * 11)) = some (.int .i64 k2) := by simpa [Addr.add] using g2 0 (by omega)
          have q1 : wz.cell? (⟨(ad2.add (i * 11)).block, (ad2.add (i * 11)).off + 1, none⟩) = some (.int .i64 f2) := by simpa [Addr.add] using g2 1 (by omega)
          have q2 : wz.cell? (⟨(ad2.add (i * 11)).block, (ad2.add (i * 11)).off + 2, none⟩) = some (.int .i64 t2) := by simpa [Addr.add] using g2 2 (by omega)
          have q3 : wz.cell? (⟨(ad2.add (i * 11)).block, (ad2.add (i * 11)).off + 3, none⟩) = some (.int .i64 b2) := by simpa [Addr.add] using g2 3 (by omega)
          have q4 : wz.cell? (⟨(ad2.add (i * 11)).block, (ad2.add (i * 11)).off + 4, none⟩) = some (.int .i64 s2) := by simpa [Addr.add] using g2 4 (by omega)
          have q5 : wz.cell? (⟨(ad2.add (i * 11)).block, (ad2.add (i * 11)).off + 5, none⟩) = some (.int .i64 wh2) := by simpa [Addr.add] using g2 5 (by omega)
          have q6 : wz.cell? (⟨(ad2.add (i * 11)).block, (ad2.add (i * 11)).off + 6, none⟩) = some (.bool wr2) := by simpa [Addr.add] using g2 6 (by omega)
          have q7 : wz.cell? (⟨(ad2.add (i * 11)).block, (ad2.add (i * 11)).off + 7, none⟩) = some (.int .i64 c2) := by simpa [Addr.add] using g2 7 (by omega)
          have q8 : wz.cell? (⟨(ad2.add (i * 11)).block, (ad2.add (i * 11)).off + 8, none⟩) = some (.bool o2) := by simpa [Addr.add] using g2 8 (by omega)
          have q9 : wz.cell? (⟨(ad2.add (i * 11)).block, (ad2.add (i * 11)).off + 9, none⟩) = some (.bool h2) := by simpa [Addr.add] using g2 9 (by omega)
          have q10 : wz.cell? (⟨(ad2.add (i * 11)).block, (ad2.add (i * 11)).off + 10, none⟩) = some (.int .i64 d2) := by simpa [Addr.add] using g2 10 (by omega)
          clear g1 g2
          go_wp2_with fail
          go_quiet (fail)
          go_wp2
          go_ret
          exact ⟨false, rfl, ⟨fun e => by simp at e, fun e => absurd e HF.out⟩, BB.out.trans ((below_drewN _ _).mono BB.out.size)⟩
      · have : i = xs.length := by omega
        subst this
        go_wp2
        go_ret
        have e1 := E.out
        rw [List.take_length, L.out, List.take_length] at e1
        exact ⟨true, rfl, ⟨fun _ => e1, fun _ => rfl⟩, BB.out⟩
  · have h1 : ((xs.length : Int) == (ys.length : Int)) = false := by simp; omega
    go_enter Try.func19, Try.ntmps19
    go_wp2
    go_ret
    exact ⟨false, rfl, ⟨fun e => by simp at e, fun e => absurd (by rw [e]) hne⟩, Below.refl _ _⟩

end Go.Proofs.Ytedfjadgfkbfiaa.NetW
