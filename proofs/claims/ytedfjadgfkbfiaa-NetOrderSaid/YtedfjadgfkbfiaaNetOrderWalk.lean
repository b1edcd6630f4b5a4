/- NetOrder, walked. -/
import Derived.Test.YtedfjadgfkbfiaaNetAwake
import Derived.Deep.DeepCutAuto
import Derived.Deep.LoopGhost
namespace Go.Proofs.Ytedfjadgfkbfiaa.NetW
open Go.RowKit Go.Proofs.YtedfjadgfkbfiaaW.PrintWords Go.Proofs.Ytedfjadgfkbfiaa.Opens
set_option linter.unusedVariables false
set_option linter.unusedSimpArgs false
attribute [local go_sem] nil27 World.cell?_alloc_some
attribute [local go_sem high] eqA36

theorem take_succ {xs : List LetR} {i : Nat} {x : LetR} (h : i < xs.length) (hx : xs.getD i l0 = x) : xs.take (i + 1) = xs.take i ++ [x] := by
  subst hx
  rw [List.take_add_one]; simp [List.getD_eq_getElem?_getD, h]
theorem drop_succ {xs : List LetR} {i : Nat} {x : LetR} (h : i < xs.length) (hx : xs.getD i l0 = x) : xs.drop i = x :: xs.drop (i + 1) := by
  subst hx
  rw [List.drop_eq_getElem_cons h]; simp [List.getD_eq_getElem?_getD, h]
theorem inside_cons (x : LetR) (xs : List LetR) : inside (x :: xs) 0 = true := by simp [inside]
theorem got_cons (x : LetR) (xs : List LetR) : got (x :: xs) 0 = x := by simp [got, inside_cons]
theorem taken_cons (x : LetR) (xs : List LetR) : taken (x :: xs) 0 = xs := by simp [taken, inside_cons]
theorem goes_one {rm : Int} {xs : List LetR} {x : LetR} (h : (xs.length : Int) < rm) : goes rm xs [x] = true := by simp [goes]; omega
theorem sent_one {rm : Int} {xs : List LetR} {x : LetR} (h : (xs.length : Int) < rm) : sent rm xs [x] = xs ++ [x] := by simp [sent, goes_one h]

set_option maxHeartbeats 4000000 in
set_option maxRecDepth 100000 in
theorem order_any {A : Option Addr} {xs : List LetR} {c : Nat} (w : World) (hR : RowL w A xs) (hl : xs.length ≤ 9223372036854775807) : Calls Try.prog 5 #[.slice A xs.length c] w (RN true w) := by
  have R := Aside0.mk hR
  clear hR
  by_cases h100 : (100 : Int) < (xs.length : Int)
  · go_enter Try.func5, Try.ntmps5
    go_wp2_with fail
    refine (awake_any _).mono ?_
    rintro e w1 ⟨rfl, hb⟩
    have B1 := Aside0.mk hb
    clear hb
    go_wp2_with fail
    refine (awake_any _).mono ?_
    rintro e w2 ⟨rfl, hb⟩
    have B2 := Aside0.mk (B1.out.trans (hb.mono B1.out.size))
    clear hb
    go_wp2
    go_ret
    exact ⟨rfl, B2.out⟩
  · go_enter Try.func5, Try.ntmps5
    go_wp2_with fail
    refine (awake_any _).mono ?_
    rintro e w1 ⟨rfl, hb⟩
    have B1 := Aside0.mk hb
    clear hb
    go_wp2_with fail
    refine (new_any xs.length w _ B1.out).mono ?_
    rintro e w2 ⟨rfl, hN, -⟩
    rw [show roomOf (xs.length : Int) = (xs.length : Int) by unfold roomOf; omega] at hN
    have N2 := Aside0.mk hN
    clear hN
    generalize w1.heap.size = g at *
    go_wp2_with fail
    go_loopw [27] (fun v27 wz => ∃ (i : Nat) (v : Value), v27 = .int .i64 i ∧ i ≤ xs.length ∧ Aside0 (NetAt 80 xs.length (xs.take i) v g w wz)) (fun v27 _ => xs.length - (intOf v27).toNat)
    case atStart => exact ⟨0, _, rfl, Nat.zero_le _, ⟨by simpa using N2.out⟩⟩
    case round =>
      obtain ⟨wz, rfl⟩ : ∃ wz : World, wz = wr := ⟨_, rfl⟩
      obtain ⟨i, v, rfl, hi, NN⟩ := hrel
      clear N2
      by_cases hlt : i < xs.length
      · have hq : (i : Int) < (xs.length : Int) := by omega
        have hq0 : (0 : Int) ≤ (i : Int) := by omega
        obtain ⟨ad, rfl, h1⟩ := (RowL.below R.out NN.out.bel) i hlt
        have g1 : ∀ j, j < 11 → wz.cell? ((ad.add (i * 11)).add j) = (letCells (xs.getD i l0))[j]? := fun j hj => by rw [Go.Deep.add_add]; exact h1 j hj
        clear h1
        obtain ⟨⟨k, f, t, b, s, wh, wr, c, o, h, d⟩, hx0⟩ : ∃ l : LetR, xs.getD i l0 = l := ⟨_, rfl⟩
        have HX := Aside0.mk hx0
        rw [hx0] at g1
        clear hx0
        simp only [letCells] at g1
        have e0 : wz.cell? (ad.add (i * 11)) = some (.int .i64 k) := by simpa [Addr.add] using g1 0 (by omega)
        have e1 : wz.cell? ⟨(ad.add (i * 11)).block, (ad.add (i * 11)).off + 1, none⟩ = some (.int .i64 f) := by simpa [Addr.add] using g1 1 (by omega)
        have e2 : wz.cell? ⟨(ad.add (i * 11)).block, (ad.add (i * 11)).off + 2, none⟩ = some (.int .i64 t) := by simpa [Addr.add] using g1 2 (by omega)
        have e3 : wz.cell? ⟨(ad.add (i * 11)).block, (ad.add (i * 11)).off + 3, none⟩ = some (.int .i64 b) := by simpa [Addr.add] using g1 3 (by omega)
        have e4 : wz.cell? ⟨(ad.add (i * 11)).block, (ad.add (i * 11)).off + 4, none⟩ = some (.int .i64 s) := by simpa [Addr.add] using g1 4 (by omega)
        have e5 : wz.cell? ⟨(ad.add (i * 11)).block, (ad.add (i * 11)).off + 5, none⟩ = some (.int .i64 wh) := by simpa [Addr.add] using g1 5 (by omega)
        have e6 : wz.cell? ⟨(ad.add (i * 11)).block, (ad.add (i * 11)).off + 6, none⟩ = some (.bool wr) := by simpa [Addr.add] using g1 6 (by omega)
        have e7 : wz.cell? ⟨(ad.add (i * 11)).block, (ad.add (i * 11)).off + 7, none⟩ = some (.int .i64 c) := by simpa [Addr.add] using g1 7 (by omega)
        have e8 : wz.cell? ⟨(ad.add (i * 11)).block, (ad.add (i * 11)).off + 8, none⟩ = some (.bool o) := by simpa [Addr.add] using g1 8 (by omega)
        have e9 : wz.cell? ⟨(ad.add (i * 11)).block, (ad.add (i * 11)).off + 9, none⟩ = some (.bool h) := by simpa [Addr.add] using g1 9 (by omega)
        have e10 : wz.cell? ⟨(ad.add (i * 11)).block, (ad.add (i * 11)).off + 10, none⟩ = some (.int .i64 d) := by simpa [Addr.add] using g1 10 (by omega)
        clear g1
        have N3 := Aside0.mk (NN.out.below (below_alloc (below_alloc (Below.refl _ wz) (.cells #[.int .i64 k, .int .i64 f, .int .i64 t, .int .i64 b, .int .i64 s, .int .i64 wh, .bool wr, .int .i64 c, .bool o, .bool h, .int .i64 d] 36)) (.cells #[.int .i64 k, .int .i64 f, .int .i64 t, .int .i64 b, .int .i64 s, .int .i64 wh, .bool wr, .int .i64 c, .bool o, .bool h, .int .i64 d] 36)))
        have R3 := Aside0.mk (show RowL ((wz.alloc (.cells #[.int .i64 k, .int .i64 f, .int .i64 t, .int .i64 b, .int .i64 s, .int .i64 wh, .bool wr, .int .i64 c, .bool o, .bool h, .int .i64 d] 36)).alloc (.cells #[.int .i64 k, .int .i64 f, .int .i64 t, .int .i64 b, .int .i64 s, .int .i64 wh, .bool wr, .int .i64 c, .bool o, .bool h, .int .i64 d] 36)) (some ⟨wz.heap.size + 1, 0, none⟩) [(k, f, t, b, s, wh, wr, c, o, h, d)] by
          have h : RowL ((wz.alloc (.cells #[.int .i64 k, .int .i64 f, .int .i64 t, .int .i64 b, .int .i64 s, .int .i64 wh, .bool wr, .int .i64 c, .bool o, .bool h, .int .i64 d] 36)).alloc (.cells #[.int .i64 k, .int .i64 f, .int .i64 t, .int .i64 b, .int .i64 s, .int .i64 wh, .bool wr, .int .i64 c, .bool o, .bool h, .int .i64 d] 36)) (some ⟨(wz.alloc (.cells #[.int .i64 k, .int .i64 f, .int .i64 t, .int .i64 b, .int .i64 s, .int .i64 wh, .bool wr, .int .i64 c, .bool o, .bool h, .int .i64 d] 36)).heap.size, 0, none⟩) [(k, f, t, b, s, wh, wr, c, o, h, d)] := blk_row (blk_new _ _)
          simpa using h)
        have hlen := Aside0.mk (show ((xs.take i).length : Int) < (xs.length : Int) by simp; omega)
        go_wp2_with fail
        refine (send_any (ys := [(k, f, t, b, s, wh, wr, c, o, h, d)]) N3.out (by simp) R3.out).mono ?_
        rintro e w4 ⟨v4, rfl, hN, hC, hS⟩
        rw [goes_one hlen.out]
        rw [sent_one hlen.out, ← take_succ hlt HX.out] at hN
        have N4 := Aside0.mk hN
        clear hN hC hS N3 R3
        go_wp2
        go_roundw
        case rel => exact ⟨i + 1, v4, by go_num, by omega, N4⟩
        case measure => simp [intOf]; omega
      · have : i = xs.length := by omega
        subst this
        have N5 := Aside0.mk (show NetAt 80 xs.length xs v g w wz by have := NN.out; rwa [List.take_length] at this)
        clear NN hlt hi
        go_wp2_with fail
        go_loopw [39] (fun v39 wz => ∃ (i : Nat) (v : Value), v39 = .int .i64 i ∧ i ≤ xs.length ∧ Aside0 (NetAt 80 xs.length (xs.drop i) v g w wz)) (fun v39 _ => xs.length - (intOf v39).toNat)
        case atStart => exact ⟨0, _, rfl, Nat.zero_le _, ⟨by simpa using N5.out⟩⟩
        case round =>
          clear N5
          obtain ⟨wy, rfl⟩ : ∃ wy : World, wy = wr := ⟨_, rfl⟩
          obtain ⟨i, v, rfl, hi, NN⟩ := hrel
          by_cases hlt : i < xs.length
          · have hq : (i : Int) < (xs.length : Int) := by omega
            have hq0 : (0 : Int) ≤ (i : Int) := by omega
            obtain ⟨ad, rfl, h1⟩ := (RowL.below R.out NN.out.bel) i hlt
            have g1 : ∀ j, j < 11 → wy.cell? ((ad.add (i * 11)).add j) = (letCells (xs.getD i l0))[j]? := fun j hj => by rw [Go.Deep.add_add]; exact h1 j hj
            clear h1
            obtain ⟨⟨k, f, t, b, s, wh, wr, c, o, h, d⟩, hx0⟩ : ∃ l : LetR, xs.getD i l0 = l := ⟨_, rfl⟩
            have HX := Aside0.mk hx0
            rw [hx0] at g1
            clear hx0
            simp only [letCells] at g1
            have e0 : wy.cell? (ad.add (i * 11)) = some (.int .i64 k) := by simpa [Addr.add] using g1 0 (by omega)
            have e1 : wy.cell? ⟨(ad.add (i * 11)).block, (ad.add (i * 11)).off + 1, none⟩ = some (.int .i64 f) := by simpa [Addr.add] using g1 1 (by omega)
            have e2 : wy.cell? ⟨(ad.add (i * 11)).block, (ad.add (i * 11)).off + 2, none⟩ = some (.int .i64 t) := by simpa [Addr.add] using g1 2 (by omega)
            have e3 : wy.cell? ⟨(ad.add (i * 11)).block, (ad.add (i * 11)).off + 3, none⟩ = some (.int .i64 b) := by simpa [Addr.add] using g1 3 (by omega)
            have e4 : wy.cell? ⟨(ad.add (i * 11)).block, (ad.add (i * 11)).off + 4, none⟩ = some (.int .i64 s) := by simpa [Addr.add] using g1 4 (by omega)
            have e5 : wy.cell? ⟨(ad.add (i * 11)).block, (ad.add (i * 11)).off + 5, none⟩ = some (.int .i64 wh) := by simpa [Addr.add] using g1 5 (by omega)
            have e6 : wy.cell? ⟨(ad.add (i * 11)).block, (ad.add (i * 11)).off + 6, none⟩ = some (.bool wr) := by simpa [Addr.add] using g1 6 (by omega)
            have e7 : wy.cell? ⟨(ad.add (i * 11)).block, (ad.add (i * 11)).off + 7, none⟩ = some (.int .i64 c) := by simpa [Addr.add] using g1 7 (by omega)
            have e8 : wy.cell? ⟨(ad.add (i * 11)).block, (ad.add (i * 11)).off + 8, none⟩ = some (.bool o) := by simpa [Addr.add] using g1 8 (by omega)
            have e9 : wy.cell? ⟨(ad.add (i * 11)).block, (ad.add (i * 11)).off + 9, none⟩ = some (.bool h) := by simpa [Addr.add] using g1 9 (by omega)
            have e10 : wy.cell? ⟨(ad.add (i * 11)).block, (ad.add (i * 11)).off + 10, none⟩ = some (.int .i64 d) := by simpa [Addr.add] using g1 10 (by omega)
            clear g1
            have N3 := Aside0.mk (NN.out.below (below_alloc (Below.refl _ wy) (.cells #[.int .i64 k, .int .i64 f, .int .i64 t, .int .i64 b, .int .i64 s, .int .i64 wh, .bool wr, .int .i64 c, .bool o, .bool h, .int .i64 d] 36)))
            have X3 := Aside0.mk (blk_new wy (.cells #[.int .i64 k, .int .i64 f, .int .i64 t, .int .i64 b, .int .i64 s, .int .i64 wh, .bool wr, .int .i64 c, .bool o, .bool h, .int .i64 d] 36))
            have NE := Aside0.mk (show wy.heap.size ≠ g by have := NN.out.lt; omega)
            have VE := Aside0.mk (show v.ownBlock ≠ some wy.heap.size by intro e; have := (OwnL.lt NN.out.own _ e).2; omega)
            have DS := Aside0.mk (drop_succ hlt HX.out)
            go_wp2_with fail
            generalize wy.alloc (.cells #[.int .i64 k, .int .i64 f, .int .i64 t, .int .i64 b, .int .i64 s, .int .i64 wh, .bool wr, .int .i64 c, .bool o, .bool h, .int .i64 d] 36) = w3 at *
            generalize wy.heap.size = bx at *
            refine (take_any 0 N3.out).mono ?_
            rintro e w4 ⟨v4, rfl, hN, hC, hS⟩
            rw [DS.out] at hN
            rw [DS.out]
            rw [got_cons, inside_cons]
            rw [taken_cons] at hN
            have bs := beside hC hS X3.out NE.out VE.out
            have N4 := Aside0.mk hN
            have X4 := Aside0.mk bs.1
            clear hN hC hS bs N3 X3 e0 e1 e2 e3 e4 e5 e6 e7 e8 e9 e10
            simp only [letV, letCells]
            have f0 : w4.cell? ⟨bx, 0, none⟩ = some (.int .i64 k) := (blk_cell X4.out 0).trans rfl
            have f1 : w4.cell? ⟨bx, 1, none⟩ = some (.int .i64 f) := (blk_cell X4.out 1).trans rfl
            have f2 : w4.cell? ⟨bx, 2, none⟩ = some (.int .i64 t) := (blk_cell X4.out 2).trans rfl
            have f3 : w4.cell? ⟨bx, 3, none⟩ = some (.int .i64 b) := (blk_cell X4.out 3).trans rfl
            have f4 : w4.cell? ⟨bx, 4, none⟩ = some (.int .i64 s) := (blk_cell X4.out 4).trans rfl
            have f5 : w4.cell? ⟨bx, 5, none⟩ = some (.int .i64 wh) := (blk_cell X4.out 5).trans rfl
            have f6 : w4.cell? ⟨bx, 6, none⟩ = some (.bool wr) := (blk_cell X4.out 6).trans rfl
            have f7 : w4.cell? ⟨bx, 7, none⟩ = some (.int .i64 c) := (blk_cell X4.out 7).trans rfl
            have f8 : w4.cell? ⟨bx, 8, none⟩ = some (.bool o) := (blk_cell X4.out 8).trans rfl
            have f9 : w4.cell? ⟨bx, 9, none⟩ = some (.bool h) := (blk_cell X4.out 9).trans rfl
            have f10 : w4.cell? ⟨bx, 10, none⟩ = some (.int .i64 d) := (blk_cell X4.out 10).trans rfl
            have N5 := Aside0.mk (N4.out.below (below_alloc (Below.refl _ w4) (.cells #[.int .i64 k, .int .i64 f, .int .i64 t, .int .i64 b, .int .i64 s, .int .i64 wh, .bool wr, .int .i64 c, .bool o, .bool h, .int .i64 d] 36)))
            go_wp2
            go_roundw
            case rel => exact ⟨i + 1, v4, by go_num, by omega, N5⟩
            case measure => simp [intOf]; omega
          · have : i = xs.length := by omega
            subst this
            have N6 := Aside0.mk (show NetAt 80 xs.length [] v g w wy by have := NN.out; rwa [List.drop_length] at this)
            clear NN hlt hi
            go_wp2_with fail
            refine (take_any 0 N6.out).mono ?_
            rintro e w7 ⟨v7, rfl, hN, hC, hS⟩
            rw [show got [] 0 = l0 from rfl, show inside [] 0 = false by decide]
            have B7 := Aside0.mk hN.bel
            clear hN hC hS
            simp only [letV, letCells, l0]
            go_wp2
            go_ret
            exact ⟨rfl, below_alloc B7.out _⟩

end Go.Proofs.Ytedfjadgfkbfiaa.NetW
