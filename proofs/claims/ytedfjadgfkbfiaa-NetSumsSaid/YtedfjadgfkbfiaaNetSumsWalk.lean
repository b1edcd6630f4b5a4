/- NetSums, walked. -/
import Derived.Test.YtedfjadgfkbfiaaNetAwake
import Derived.Deep.DeepCutAuto
import Derived.Deep.LoopGhost
namespace Go.Proofs.Ytedfjadgfkbfiaa.NetW
open Go.RowKit Go.Proofs.YtedfjadgfkbfiaaW.PrintWords Go.Proofs.Ytedfjadgfkbfiaa.Opens
set_option linter.unusedVariables false
set_option linter.unusedSimpArgs false
attribute [local go_sem] nil27 World.cell?_alloc_some
attribute [local go_sem high] eqA36

set_option maxHeartbeats 4000000 in
set_option maxRecDepth 100000 in
theorem sums_any (room : Int) {A : Option Addr} {xs : List ActN} {c : Nat} (w : World) (hR : RowN w A xs) (hl : xs.length ≤ 9223372036854775807) : Calls Try.prog 6 #[.int .i64 room, .slice A xs.length c] w (RN true w) := by
  have R := Aside0.mk hR
  clear hR
  cases hgr : (decide (200 < xs.length) || xs.any fun a => decide (50 < a.2.2.2.2.length)) with
  | true =>
    go_enter Try.func6, Try.ntmps6
    go_wp2_with fail
    refine (awake_any _).mono ?_
    rintro e w1 ⟨rfl, hb⟩
    have B1 := Aside0.mk hb
    clear hb
    go_wp2_with fail
    refine (great_any _ (R.out.below B1.out) hl).mono ?_
    rintro e w2 ⟨rfl, hb⟩
    have B2 := Aside0.mk (B1.out.trans (hb.mono B1.out.size))
    clear hb
    rw [hgr]
    go_wp2_with fail
    refine (awake_any _).mono ?_
    rintro e w3 ⟨rfl, hb⟩
    have B3 := Aside0.mk (B2.out.trans (hb.mono B2.out.size))
    clear hb
    go_wp2
    go_ret
    exact ⟨rfl, B3.out⟩
  | false =>
    have GR := Aside0.mk hgr
    go_enter Try.func6, Try.ntmps6
    go_wp2_with fail
    refine (awake_any _).mono ?_
    rintro e w1 ⟨rfl, hb⟩
    have B1 := Aside0.mk hb
    clear hb
    go_wp2_with fail
    refine (great_any _ (R.out.below B1.out) hl).mono ?_
    rintro e w2 ⟨rfl, hb⟩
    have B2 := Aside0.mk (B1.out.trans (hb.mono B1.out.size))
    clear hb
    rw [hgr]
    clear hgr
    go_wp2_with fail
    refine (new_any room w _ B2.out).mono ?_
    rintro e w3 ⟨rfl, hN, -⟩
    have N3 := Aside0.mk hN
    clear hN
    generalize w2.heap.size = g at *
    have hroom := roomOf_ok room
    generalize hrm : roomOf room = rm at *
    go_wp2_with fail
    go_loopw [6, 24] (fun v6 v24 wz => ∃ (i : Nat) (zs : List LetR) (v : Value), v24 = .int .i64 i ∧ v6 = .int .i64 zs.length ∧ i ≤ xs.length ∧ Aside0 (NetAt 80 rm zs v g w wz)) (fun _ v24 _ => xs.length - (intOf v24).toNat)
    case atStart => exact ⟨0, [], _, rfl, rfl, Nat.zero_le _, N3⟩
    case round =>
      clear N3
      obtain ⟨wz, rfl⟩ : ∃ wz : World, wz = wr := ⟨_, rfl⟩
      obtain ⟨i, zs, v, rfl, rfl, hi, NN⟩ := hrel
      obtain ⟨hr1, hr2, hr3⟩ := NN.out.room
      by_cases hlt : i < xs.length
      · have hq : (i : Int) < (xs.length : Int) := by omega
        have hq0 : (0 : Int) ≤ (i : Int) := by omega
        obtain ⟨ad, kd, p, B, c2, ys, rfl, hx, d0, d1, d2, hr, hy⟩ := (RowN.below R.out NN.out.bel).at_ hlt
        have HX := Aside0.mk hx
        have RY := Aside0.mk hr
        clear hx hr
        have N4 := Aside0.mk (NN.out.below (below_alloc (Below.refl _ wz) (.cells #[.int .i64 kd, .int .i64 p, .slice B ys.length c2] 29)))
        have X4 := Aside0.mk (blk_new wz (.cells #[.int .i64 kd, .int .i64 p, .slice B ys.length c2] 29))
        have R4 := Aside0.mk (RowL.below RY.out (below_alloc (Below.refl _ wz) (.cells #[.int .i64 kd, .int .i64 p, .slice B ys.length c2] 29)))
        have NE := Aside0.mk (show wz.heap.size ≠ g by have := NN.out.lt; omega)
        have VE := Aside0.mk (show v.ownBlock ≠ some wz.heap.size by intro e; have := (OwnL.lt NN.out.own _ e).2; omega)
        go_upto_block 2 with fail
        clear d0 d1 d2
        go_cut [6] (fun v6 wx => ∃ (zs : List LetR) (v : Value), v6 = .int .i64 zs.length ∧ Aside0 (NetAt 80 rm zs v g w wx))
        case first =>
          by_cases h1 : kd = 1
          · have k1 : (kd == 1) = true := beq_iff_eq.2 h1
            clear h1
            go_wp2_with fail
            generalize wz.alloc (.cells #[.int .i64 kd, .int .i64 p, .slice B ys.length c2] 29) = w4 at *
            generalize wz.heap.size = bx at *
            refine (send_any N4.out hy R4.out).mono ?_
            rintro e w5 ⟨v5, rfl, hN, hC, hS⟩
            have bs := beside hC hS X4.out NE.out VE.out
            have x2 : w5.cell? ⟨bx, 2, none⟩ = some (.slice B ys.length c2) := (blk_cell bs.1 2).trans rfl
            cases hgo : goes rm zs ys with
            | true =>
              rw [show sent rm zs ys = zs ++ ys by simp [sent, hgo]] at hN
              have hle := hN.room.2.2
              rw [List.length_append] at hle
              have N5 := Aside0.mk hN
              clear hN hC hS bs
              have hwr : wrap64 ((zs.length : Int) + (ys.length : Int)) = (zs.length : Int) + (ys.length : Int) := by unfold wrap64; omega
              go_wp2
              go_meet
              exact ⟨zs ++ ys, v5, by rw [List.length_append]; go_num, N5⟩
            | false =>
              rw [show sent rm zs ys = zs by simp [sent, hgo]] at hN
              have N5 := Aside0.mk hN
              clear hN hC hS bs
              go_wp2
              go_meet
              exact ⟨zs, v5, rfl, N5⟩
          · have k1 : (kd == 1) = false := beq_eq_false_iff_ne.2 h1
            by_cases h2 : kd = 2
            · have k2 : (kd == 2) = true := beq_iff_eq.2 h2
              clear h1 h2
              go_wp2_with fail
              generalize wz.alloc (.cells #[.int .i64 kd, .int .i64 p, .slice B ys.length c2] 29) = w4 at *
              generalize wz.heap.size = bx at *
              refine (take_any p N4.out).mono ?_
              rintro e w5 ⟨v5, rfl, hN, hC, hS⟩
              clear hC hS
              obtain ⟨k, f, t, b, s, wh, wr, c, o, h, d⟩ : LetR := got zs p
              cases hin : inside zs p with
              | true =>
                obtain ⟨n, hn, hnl⟩ := inside_nat hin
                rw [show taken zs p = zs.eraseIdx n by rw [taken, if_pos hin, hn]; simp] at hN
                have hle := hN.room.2.2
                rw [List.length_eraseIdx_of_lt hnl] at hle
                have N5 := Aside0.mk (hN.below (below_alloc (Below.refl _ w5) (.cells #[.int .i64 k, .int .i64 f, .int .i64 t, .int .i64 b, .int .i64 s, .int .i64 wh, .bool wr, .int .i64 c, .bool o, .bool h, .int .i64 d] 36)))
                have HL := Aside0.mk (List.length_eraseIdx_of_lt hnl)
                clear hN hn
                have hwr : wrap64 ((zs.length : Int) - 1) = (zs.length : Int) - 1 := by unfold wrap64; omega
                simp only [letV, letCells]
                go_wp2
                go_meet
                exact ⟨zs.eraseIdx n, v5, by rw [HL.out]; congr 1; omega, N5⟩
              | false =>
                rw [show taken zs p = zs by simp [taken, hin]] at hN
                have N5 := Aside0.mk (hN.below (below_alloc (Below.refl _ w5) (.cells #[.int .i64 k, .int .i64 f, .int .i64 t, .int .i64 b, .int .i64 s, .int .i64 wh, .bool wr, .int .i64 c, .bool o, .bool h, .int .i64 d] 36)))
                clear hN
                simp only [letV, letCells]
                go_wp2
                go_meet
                exact ⟨zs, v5, rfl, N5⟩
            · have k2 : (kd == 2) = false := beq_eq_false_iff_ne.2 h2
              by_cases h3 : kd = 3
              · have k3 : (kd == 3) = true := beq_iff_eq.2 h3
                clear h1 h2 h3
                go_wp2_with fail
                generalize wz.alloc (.cells #[.int .i64 kd, .int .i64 p, .slice B ys.length c2] 29) = w4 at *
                generalize wz.heap.size = bx at *
                refine (drop_any p N4.out).mono ?_
                rintro e w5 ⟨v5, rfl, hN, hC, hS⟩
                clear hC hS
                cases hlo : loses zs p with
                | true =>
                  obtain ⟨n, hn, hnl⟩ := inside_nat (show inside zs p = true by simp [loses] at hlo; exact hlo.1)
                  rw [show dropped zs p = zs.eraseIdx n by rw [dropped, if_pos hlo, hn]; simp] at hN
                  have hle := hN.room.2.2
                  rw [List.length_eraseIdx_of_lt hnl] at hle
                  have N5 := Aside0.mk hN
                  have HL := Aside0.mk (List.length_eraseIdx_of_lt hnl)
                  clear hN hn
                  have hwr : wrap64 ((zs.length : Int) - 1) = (zs.length : Int) - 1 := by unfold wrap64; omega
                  go_wp2
                  go_meet
                  exact ⟨zs.eraseIdx n, v5, by rw [HL.out]; congr 1; omega, N5⟩
                | false =>
                  rw [show dropped zs p = zs by simp [dropped, hlo]] at hN
                  have N5 := Aside0.mk hN
                  clear hN
                  go_wp2
                  go_meet
                  exact ⟨zs, v5, rfl, N5⟩
              · have k3 : (kd == 3) = false := beq_eq_false_iff_ne.2 h3
                clear h1 h2 h3
                go_wp2
                go_meet
                exact ⟨zs, v, rfl, N4⟩
        case rest =>
          obtain ⟨zs2, v2, rfl, N6⟩ := hcut
          go_wp2_with fail
          refine (list_any N6.out).mono ?_
          rintro e w7 ⟨u, rfl, hO, hb⟩
          obtain ⟨A7, k7, rfl, -, -, -⟩ := OwnL.row hO
          have N7 := Aside0.mk (N6.out.below hb)
          clear hO hb
          go_wp2
          go_roundw
          case rel => exact ⟨i + 1, zs2, v2, by go_num, rfl, by omega, N7⟩
          case measure => simp [intOf]; omega
      · have : i = xs.length := by omega
        subst this
        go_wp2
        go_ret
        exact ⟨rfl, NN.out.bel⟩

end Go.Proofs.Ytedfjadgfkbfiaa.NetW
