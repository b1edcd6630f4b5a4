/- What awake and great come to. -/
import Derived.Test.YtedfjadgfkbfiaaNetMore
import Derived.Test.YtedfjadgfkbfiaaNetSame
import Derived.Test.YtedfjadgfkbfiaaNetOpens
namespace Go.Proofs.Ytedfjadgfkbfiaa.NetW
open Go.RowKit Go.Proofs.YtedfjadgfkbfiaaW.PrintWords Go.Proofs.Ytedfjadgfkbfiaa.Opens
set_option linter.unusedVariables false
set_option linter.unusedSimpArgs false
attribute [local go_sem] nil27 World.cell?_alloc_some
attribute [local go_sem high] eqA36

def RN (b : Bool) (w : World) (e : Ending) (w' : World) : Prop := e = .returned (.bool b) ∧ Below w.heap.size w w'
theorem blk_row {w : World} {b : Nat} {xs : List LetR} (h : w.heap[b]? = some (.cells (flat xs).toArray 36 (0, 0))) : RowL w (some ⟨b, 0, none⟩) xs := by
  refine fun i hi => ⟨_, rfl, fun j hj => ?_⟩
  rw [Addr.add_lit, blk_cell h]
  simp only [Nat.zero_add, List.getElem?_toArray]
  exact flat_get xs i j hi hj
/-- A block of the call's own beside a net stays. -/
theorem beside {v v' : Value} {g b : Nat} {w w' : World} {o : Obj} (hC : Chg g v.ownBlock w w') (hS : Since w.heap.size v v') (hB : w.heap[b]? = some o) (hbg : b ≠ g) (hv : v.ownBlock ≠ some b) : w'.heap[b]? = some o ∧ v'.ownBlock ≠ some b := by
  refine ⟨hC.blk hB hbg (fun e => hv e.symm), ?_⟩
  rcases hS with e | ⟨k, e, hk⟩
  · rw [e]; exact hv
  · rw [e]; intro e2; injection e2 with e2; have := blk_lt hB; omega
def aL : LetR := (7, 0, 0, 0, 1, 0, false, 0, false, false, 0)

set_option maxHeartbeats 4000000 in
set_option maxRecDepth 100000 in
theorem awake_any (w : World) : Calls Try.prog 14 #[] w (RN true w) := by
  go_enter Try.func14, Try.ntmps14
  go_wp2_with fail
  refine (new_any 1 w _ (Below.refl _ _)).mono ?_
  rintro e w1 ⟨rfl, hN, hb⟩
  have N1 := Aside0.mk hN
  have G1 := Aside0.mk (show w.heap.size < w1.heap.size from hN.lt)
  clear hN hb
  go_wp2_with fail
  have e2 : (w1.alloc (.cells #[.int .i64 7, .int .i64 0, .int .i64 0, .int .i64 0, .int .i64 1, .int .i64 0, .bool false, .int .i64 0, .bool false, .bool false, .int .i64 0] 36)).heap.size = w1.heap.size + 1 := by simp
  have X2 := Aside0.mk (blk_new w1 (.cells #[.int .i64 7, .int .i64 0, .int .i64 0, .int .i64 0, .int .i64 1, .int .i64 0, .bool false, .int .i64 0, .bool false, .bool false, .int .i64 0] 36))
  have NE := Aside0.mk (show w1.heap.size ≠ w.heap.size by have := G1.out; omega)
  have N2 := Aside0.mk (N1.out.below (below_alloc (Below.refl _ _) (.cells #[.int .i64 7, .int .i64 0, .int .i64 0, .int .i64 0, .int .i64 1, .int .i64 0, .bool false, .int .i64 0, .bool false, .bool false, .int .i64 0] 36)))
  have R3 := Aside0.mk (show RowL ((w1.alloc (.cells #[.int .i64 7, .int .i64 0, .int .i64 0, .int .i64 0, .int .i64 1, .int .i64 0, .bool false, .int .i64 0, .bool false, .bool false, .int .i64 0] 36)).alloc (.cells #[.int .i64 7, .int .i64 0, .int .i64 0, .int .i64 0, .int .i64 1, .int .i64 0, .bool false, .int .i64 0, .bool false, .bool false, .int .i64 0, .int .i64 7, .int .i64 0, .int .i64 0, .int .i64 0, .int .i64 1, .int .i64 0, .bool false, .int .i64 0, .bool false, .bool false, .int .i64 0] 36)) (some ⟨w1.heap.size + 1, 0, none⟩) [aL, aL] by
    have h : RowL ((w1.alloc (.cells #[.int .i64 7, .int .i64 0, .int .i64 0, .int .i64 0, .int .i64 1, .int .i64 0, .bool false, .int .i64 0, .bool false, .bool false, .int .i64 0] 36)).alloc (.cells #[.int .i64 7, .int .i64 0, .int .i64 0, .int .i64 0, .int .i64 1, .int .i64 0, .bool false, .int .i64 0, .bool false, .bool false, .int .i64 0, .int .i64 7, .int .i64 0, .int .i64 0, .int .i64 0, .int .i64 1, .int .i64 0, .bool false, .int .i64 0, .bool false, .bool false, .int .i64 0] 36)) (some ⟨(w1.alloc (.cells #[.int .i64 7, .int .i64 0, .int .i64 0, .int .i64 0, .int .i64 1, .int .i64 0, .bool false, .int .i64 0, .bool false, .bool false, .int .i64 0] 36)).heap.size, 0, none⟩) [aL, aL] := blk_row (blk_new _ _)
    rwa [e2] at h)
  have N3 := Aside0.mk (N2.out.below (below_alloc (Below.refl _ _) (.cells #[.int .i64 7, .int .i64 0, .int .i64 0, .int .i64 0, .int .i64 1, .int .i64 0, .bool false, .int .i64 0, .bool false, .bool false, .int .i64 0, .int .i64 7, .int .i64 0, .int .i64 0, .int .i64 0, .int .i64 1, .int .i64 0, .bool false, .int .i64 0, .bool false, .bool false, .int .i64 0] 36)))
  have X3 := Aside0.mk (blk_alloc X2.out (.cells #[.int .i64 7, .int .i64 0, .int .i64 0, .int .i64 0, .int .i64 1, .int .i64 0, .bool false, .int .i64 0, .bool false, .bool false, .int .i64 0, .int .i64 7, .int .i64 0, .int .i64 0, .int .i64 0, .int .i64 1, .int .i64 0, .bool false, .int .i64 0, .bool false, .bool false, .int .i64 0] 36))
  clear e2
  generalize (w1.alloc (.cells #[.int .i64 7, .int .i64 0, .int .i64 0, .int .i64 0, .int .i64 1, .int .i64 0, .bool false, .int .i64 0, .bool false, .bool false, .int .i64 0] 36)).alloc (.cells #[.int .i64 7, .int .i64 0, .int .i64 0, .int .i64 0, .int .i64 1, .int .i64 0, .bool false, .int .i64 0, .bool false, .bool false, .int .i64 0, .int .i64 7, .int .i64 0, .int .i64 0, .int .i64 0, .int .i64 1, .int .i64 0, .bool false, .int .i64 0, .bool false, .bool false, .int .i64 0] 36) = w3 at *
  generalize w1.heap.size = bx at *
  generalize hgx : w.heap.size = g at *
  refine (send_any (ys := [aL, aL]) N3.out (by decide) R3.out).mono ?_
  rintro e w4 ⟨v4, rfl, hN, hC, hS⟩
  rw [show goes (roomOf 1) [] [aL, aL] = false by decide]
  rw [show sent (roomOf 1) [] [aL, aL] = [] by decide] at hN
  have bs := beside hC hS X3.out NE.out (by simp [Value.ownBlock])
  have N4 := Aside0.mk hN
  have X4 := Aside0.mk bs.1
  have V4 := Aside0.mk bs.2
  clear hN hC hS bs
  have f0 : w4.cell? ⟨bx, 0, none⟩ = some (.int .i64 7) := (blk_cell X4.out 0).trans rfl
  have f1 : w4.cell? ⟨bx, 1, none⟩ = some (.int .i64 0) := (blk_cell X4.out 1).trans rfl
  have f2 : w4.cell? ⟨bx, 2, none⟩ = some (.int .i64 0) := (blk_cell X4.out 2).trans rfl
  have f3 : w4.cell? ⟨bx, 3, none⟩ = some (.int .i64 0) := (blk_cell X4.out 3).trans rfl
  have f4 : w4.cell? ⟨bx, 4, none⟩ = some (.int .i64 1) := (blk_cell X4.out 4).trans rfl
  have f5 : w4.cell? ⟨bx, 5, none⟩ = some (.int .i64 0) := (blk_cell X4.out 5).trans rfl
  have f6 : w4.cell? ⟨bx, 6, none⟩ = some (.bool false) := (blk_cell X4.out 6).trans rfl
  have f7 : w4.cell? ⟨bx, 7, none⟩ = some (.int .i64 0) := (blk_cell X4.out 7).trans rfl
  have f8 : w4.cell? ⟨bx, 8, none⟩ = some (.bool false) := (blk_cell X4.out 8).trans rfl
  have f9 : w4.cell? ⟨bx, 9, none⟩ = some (.bool false) := (blk_cell X4.out 9).trans rfl
  have f10 : w4.cell? ⟨bx, 10, none⟩ = some (.int .i64 0) := (blk_cell X4.out 10).trans rfl
  go_wp2_with fail
  have N5 := Aside0.mk (N4.out.below (below_alloc (Below.refl _ _) (.cells #[.int .i64 7, .int .i64 0, .int .i64 0, .int .i64 0, .int .i64 1, .int .i64 0, .bool false, .int .i64 0, .bool false, .bool false, .int .i64 0] 36)))
  have X5 := Aside0.mk (blk_alloc X4.out (.cells #[.int .i64 7, .int .i64 0, .int .i64 0, .int .i64 0, .int .i64 1, .int .i64 0, .bool false, .int .i64 0, .bool false, .bool false, .int .i64 0] 36))
  have R5 := Aside0.mk (show RowL (w4.alloc (.cells #[.int .i64 7, .int .i64 0, .int .i64 0, .int .i64 0, .int .i64 1, .int .i64 0, .bool false, .int .i64 0, .bool false, .bool false, .int .i64 0] 36)) (some ⟨w4.heap.size, 0, none⟩) [aL] from blk_row (blk_new _ _))
  clear f0 f1 f2 f3 f4 f5 f6 f7 f8 f9 f10
  generalize w4.alloc (.cells #[.int .i64 7, .int .i64 0, .int .i64 0, .int .i64 0, .int .i64 1, .int .i64 0, .bool false, .int .i64 0, .bool false, .bool false, .int .i64 0] 36) = w5 at *
  refine (send_any (ys := [aL]) N5.out (by decide) R5.out).mono ?_
  rintro e w6 ⟨v6, rfl, hN, hC, hS⟩
  rw [show goes (roomOf 1) [] [aL] = true by decide]
  rw [show sent (roomOf 1) [] [aL] = [aL] from rfl] at hN
  have bs := beside hC hS X5.out NE.out V4.out
  have N6 := Aside0.mk hN
  have X6 := Aside0.mk bs.1
  have V6 := Aside0.mk bs.2
  clear hN hC hS bs
  go_wp2_with fail
  refine (drop_any 0 N6.out).mono ?_
  rintro e w7 ⟨v7, rfl, hN, hC, hS⟩
  rw [show loses [aL] 0 = false by decide]
  rw [show dropped [aL] 0 = [aL] from rfl] at hN
  have bs := beside hC hS X6.out NE.out V6.out
  have N7 := Aside0.mk hN
  have X7 := Aside0.mk bs.1
  have V7 := Aside0.mk bs.2
  clear hN hC hS bs
  go_wp2_with fail
  refine (take_any 0 N7.out).mono ?_
  rintro e w8 ⟨v8, rfl, hN, hC, hS⟩
  rw [show got [aL] 0 = aL from rfl, show inside [aL] 0 = true by decide]
  rw [show taken [aL] 0 = [] from rfl] at hN
  have bs := beside hC hS X7.out NE.out V7.out
  have N8 := Aside0.mk hN
  have X8 := Aside0.mk bs.1
  have V8 := Aside0.mk bs.2
  clear hN hC hS bs
  simp only [letV, letCells, aL]
  go_wp2_with fail
  have N9 := Aside0.mk (N8.out.below (below_alloc (Below.refl _ _) (.cells #[.int .i64 7, .int .i64 0, .int .i64 0, .int .i64 0, .int .i64 1, .int .i64 0, .bool false, .int .i64 0, .bool false, .bool false, .int .i64 0] 36)))
  have X9 := Aside0.mk (blk_alloc X8.out (.cells #[.int .i64 7, .int .i64 0, .int .i64 0, .int .i64 0, .int .i64 1, .int .i64 0, .bool false, .int .i64 0, .bool false, .bool false, .int .i64 0] 36))
  have Y9 := Aside0.mk (blk_new w8 (.cells #[.int .i64 7, .int .i64 0, .int .i64 0, .int .i64 0, .int .i64 1, .int .i64 0, .bool false, .int .i64 0, .bool false, .bool false, .int .i64 0] 36))
  have NY := Aside0.mk (show w8.heap.size ≠ g by have := N8.out.lt; omega)
  have VY := Aside0.mk (show v8.ownBlock ≠ some w8.heap.size by intro e; have := (OwnL.lt N8.out.own _ e).2; omega)
  generalize w8.alloc (.cells #[.int .i64 7, .int .i64 0, .int .i64 0, .int .i64 0, .int .i64 1, .int .i64 0, .bool false, .int .i64 0, .bool false, .bool false, .int .i64 0] 36) = w9 at *
  generalize w8.heap.size = by8 at *
  refine (take_any 0 N9.out).mono ?_
  rintro e w10 ⟨v10, rfl, hN, hC, hS⟩
  rw [show got [] 0 = l0 from rfl, show inside [] 0 = false by decide]
  rw [show taken [] 0 = [] from rfl] at hN
  have bs := beside hC hS X9.out NE.out V8.out
  have cs := beside hC hS Y9.out NY.out VY.out
  have N10 := Aside0.mk hN
  have X10 := Aside0.mk bs.1
  have Y10 := Aside0.mk cs.1
  clear hN hC hS bs cs
  simp only [letV, letCells, l0]
  have f0 : w10.cell? ⟨bx, 0, none⟩ = some (.int .i64 7) := (blk_cell X10.out 0).trans rfl
  have f1 : w10.cell? ⟨bx, 1, none⟩ = some (.int .i64 0) := (blk_cell X10.out 1).trans rfl
  have f2 : w10.cell? ⟨bx, 2, none⟩ = some (.int .i64 0) := (blk_cell X10.out 2).trans rfl
  have f3 : w10.cell? ⟨bx, 3, none⟩ = some (.int .i64 0) := (blk_cell X10.out 3).trans rfl
  have f4 : w10.cell? ⟨bx, 4, none⟩ = some (.int .i64 1) := (blk_cell X10.out 4).trans rfl
  have f5 : w10.cell? ⟨bx, 5, none⟩ = some (.int .i64 0) := (blk_cell X10.out 5).trans rfl
  have f6 : w10.cell? ⟨bx, 6, none⟩ = some (.bool false) := (blk_cell X10.out 6).trans rfl
  have f7 : w10.cell? ⟨bx, 7, none⟩ = some (.int .i64 0) := (blk_cell X10.out 7).trans rfl
  have f8 : w10.cell? ⟨bx, 8, none⟩ = some (.bool false) := (blk_cell X10.out 8).trans rfl
  have f9 : w10.cell? ⟨bx, 9, none⟩ = some (.bool false) := (blk_cell X10.out 9).trans rfl
  have f10 : w10.cell? ⟨bx, 10, none⟩ = some (.int .i64 0) := (blk_cell X10.out 10).trans rfl
  have y0 : w10.cell? ⟨by8, 0, none⟩ = some (.int .i64 7) := (blk_cell Y10.out 0).trans rfl
  have y1 : w10.cell? ⟨by8, 1, none⟩ = some (.int .i64 0) := (blk_cell Y10.out 1).trans rfl
  have y2 : w10.cell? ⟨by8, 2, none⟩ = some (.int .i64 0) := (blk_cell Y10.out 2).trans rfl
  have y3 : w10.cell? ⟨by8, 3, none⟩ = some (.int .i64 0) := (blk_cell Y10.out 3).trans rfl
  have y4 : w10.cell? ⟨by8, 4, none⟩ = some (.int .i64 1) := (blk_cell Y10.out 4).trans rfl
  have y5 : w10.cell? ⟨by8, 5, none⟩ = some (.int .i64 0) := (blk_cell Y10.out 5).trans rfl
  have y6 : w10.cell? ⟨by8, 6, none⟩ = some (.bool false) := (blk_cell Y10.out 6).trans rfl
  have y7 : w10.cell? ⟨by8, 7, none⟩ = some (.int .i64 0) := (blk_cell Y10.out 7).trans rfl
  have y8 : w10.cell? ⟨by8, 8, none⟩ = some (.bool false) := (blk_cell Y10.out 8).trans rfl
  have y9 : w10.cell? ⟨by8, 9, none⟩ = some (.bool false) := (blk_cell Y10.out 9).trans rfl
  have y10 : w10.cell? ⟨by8, 10, none⟩ = some (.int .i64 0) := (blk_cell Y10.out 10).trans rfl
  go_wp2_with fail
  refine (list_any (N10.out.below (below_alloc (Below.refl _ _) (.cells #[.int .i64 0, .int .i64 0, .int .i64 0, .int .i64 0, .int .i64 0, .int .i64 0, .bool false, .int .i64 0, .bool false, .bool false, .int .i64 0] 36)))).mono ?_
  rintro e w11 ⟨u, rfl, hO, hb⟩
  have B11 := Aside0.mk (N10.out.bel.trans ((below_alloc (Below.refl _ w10) (.cells #[.int .i64 0, .int .i64 0, .int .i64 0, .int .i64 0, .int .i64 0, .int .i64 0, .bool false, .int .i64 0, .bool false, .bool false, .int .i64 0] 36)).mono N10.out.bel.size |>.trans (hb.mono (Nat.le_trans N10.out.bel.size (by simp)))))
  obtain ⟨A11, k11, rfl, -, -, -⟩ := OwnL.row hO
  clear hO hb
  go_wp2
  go_ret
  exact ⟨rfl, B11.out⟩

set_option maxHeartbeats 4000000 in
set_option maxRecDepth 100000 in
theorem great_any {A : Option Addr} {xs : List ActN} {c : Nat} (w : World) (hR : RowN w A xs) (hl : xs.length ≤ 9223372036854775807) : Calls Try.prog 15 #[.slice A xs.length c] w (RN (decide (200 < xs.length) || xs.any fun a => decide (50 < a.2.2.2.2.length)) w) := by
  have R := Aside0.mk hR
  clear hR
  by_cases h200 : (200 : Int) < (xs.length : Int)
  · have hg : decide (200 < xs.length) = true := by simp; omega
    go_enter Try.func15, Try.ntmps15
    go_wp2
    go_ret
    exact ⟨by rw [hg]; rfl, Below.refl _ _⟩
  · have hg : decide (200 < xs.length) = false := by simp; omega
    rw [hg, Bool.false_or]
    clear hg
    go_enter Try.func15, Try.ntmps15
    go_wp2_with fail
    go_loopw [10] (fun v10 wr => ∃ i : Nat, v10 = .int .i64 i ∧ i ≤ xs.length ∧ Aside0 ((xs.take i).any (fun a => decide (50 < a.2.2.2.2.length)) = false) ∧ Aside0 (Below w.heap.size w wr)) (fun v10 _ => xs.length - (intOf v10).toNat)
    case atStart => exact ⟨0, rfl, Nat.zero_le _, ⟨rfl⟩, ⟨Below.refl _ _⟩⟩
    case round =>
      obtain ⟨i, rfl, hi, E, BB⟩ := hrel
      by_cases hlt : i < xs.length
      · have hq : (i : Int) < (xs.length : Int) := by omega
        have hq0 : (0 : Int) ≤ (i : Int) := by omega
        obtain ⟨ad, k, p, B, c2, ys, rfl, hx, d0, d1, d2, hr, hy⟩ := (RowN.below R.out BB.out).at_ hlt
        have HX := Aside0.mk (show xs.take (i + 1) = xs.take i ++ [(k, p, B, c2, ys)] by
          rw [List.take_add_one, ← hx]; simp [List.getD_eq_getElem?_getD, hlt])
        have HM := Aside0.mk (show (k, p, B, c2, ys) ∈ xs by rw [← hx]; simp [List.getD_eq_getElem?_getD, hlt])
        have B2 := Aside0.mk (below_alloc BB.out (.cells #[.int .i64 k, .int .i64 p, .slice B ys.length c2] 29))
        clear hx hr
        by_cases h50 : (50 : Int) < (ys.length : Int)
        · go_wp2
          go_ret
          refine ⟨?_, B2.out⟩
          rw [show (xs.any fun a => decide (50 < a.2.2.2.2.length)) = true from List.any_eq_true.2 ⟨_, HM.out, by simp; omega⟩]
          rfl
        · go_wp2
          go_roundw
          case rel => exact ⟨i + 1, by go_num, by omega, ⟨by rw [HX.out, List.any_append, E.out]; simp; omega⟩, B2⟩
          case measure => simp [intOf]; omega
      · have : i = xs.length := by omega
        subst this
        go_wp2
        go_ret
        have e := E.out
        rw [List.take_length] at e
        exact ⟨by rw [e]; rfl, BB.out⟩

end Go.Proofs.Ytedfjadgfkbfiaa.NetW
