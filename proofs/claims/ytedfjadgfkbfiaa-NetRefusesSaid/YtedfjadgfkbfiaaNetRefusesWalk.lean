/- NetRefuses, walked. -/
import Derived.Test.YtedfjadgfkbfiaaNetPlay
import Derived.Deep.RegionWith
namespace Go.Proofs.Ytedfjadgfkbfiaa.NetW
open Go.RowKit Go.Proofs.YtedfjadgfkbfiaaW.PrintWords Go.Proofs.Ytedfjadgfkbfiaa.Opens
set_option linter.unusedVariables false
set_option linter.unusedSimpArgs false
attribute [local go_sem] nil27 World.cell?_alloc_some
attribute [local go_sem high] eqA36

set_option maxHeartbeats 16000000 in
set_option maxRecDepth 100000 in
theorem refuses_any (room : Int) {A : Option Addr} {xs : List ActN} {c : Nat} (w : World) (hR : RowN w A xs) (hl : xs.length ≤ 9223372036854775807) : Calls Try.prog 3 #[.int .i64 room, .slice A xs.length c] w (RN true w) := by
  have R := Aside0.mk hR
  clear hR
  cases hgr : (decide (200 < xs.length) || xs.any fun a => decide (50 < a.2.2.2.2.length)) with
  | true =>
    go_enter Try.func3, Try.ntmps3
    go_wp2_with fail
    refine (awake_any _).mono ?_
    rintro e w1 ⟨rfl, hb⟩
    have B1 := Aside0.mk hb
    clear hb
    go_wp2_with fail
    refine (great_any _ (R.out.below B1.out) hl).mono ?_
    rintro e w2 ⟨rfl, hb⟩
    have B2 := Aside0.mk (B1.out.trans (hb.mono B1.out.size))
    clear hb
    rw [hgr]
    go_wp2_with fail
    refine (awake_any _).mono ?_
    rintro e w3 ⟨rfl, hb⟩
    have B3 := Aside0.mk (B2.out.trans (hb.mono B2.out.size))
    clear hb
    go_wp2
    go_ret
    exact ⟨rfl, B3.out⟩
  | false =>
    have GR := Aside0.mk hgr
    go_enter Try.func3, Try.ntmps3
    go_wp2_with fail
    refine (awake_any _).mono ?_
    rintro e w1 ⟨rfl, hb⟩
    have B1 := Aside0.mk hb
    clear hb
    go_wp2_with fail
    refine (great_any _ (R.out.below B1.out) hl).mono ?_
    rintro e w2 ⟨rfl, hb⟩
    have B2 := Aside0.mk (B1.out.trans (hb.mono B1.out.size))
    clear hb
    rw [hgr]
    clear hgr
    go_wp2_with fail
    refine (new_any room w _ B2.out).mono ?_
    rintro e w3 ⟨rfl, hN, -⟩
    have N3 := Aside0.mk hN
    clear hN
    generalize w2.heap.size = g at *
    have hroom := roomOf_ok room
    generalize hrm : roomOf room = rm at *
    have hmx : (0 ≤ room ∧ rm ≤ room) ∨ (room < 0 ∧ rm = 0) := by rw [← hrm]; unfold roomOf; omega
    clear hrm
    go_wp2_with fail
    go_loopw [23] (fun v23 wz => ∃ (i : Nat) (zs : List LetR) (v : Value), v23 = .int .i64 i ∧ i ≤ xs.length ∧ Aside0 (NetAt 80 rm zs v g w wz)) (fun v23 _ => xs.length - (intOf v23).toNat)
    case atStart => exact ⟨0, [], _, rfl, Nat.zero_le _, N3⟩
    case round =>
      clear N3
      obtain ⟨wz, rfl⟩ : ∃ wz : World, wz = wr := ⟨_, rfl⟩
      obtain ⟨i, zs, v, rfl, hi, NN⟩ := hrel
      by_cases hlt : i < xs.length
      · have hq : (i : Int) < (xs.length : Int) := by omega
        have hq0 : (0 : Int) ≤ (i : Int) := by omega
        obtain ⟨ad, kd, p, B, c2, ys, rfl, hx, d0, d1, d2, hr, hy⟩ := (RowN.below R.out NN.out.bel).at_ hlt
        have HX := Aside0.mk hx
        have RY := Aside0.mk hr
        clear hx hr
        have N4 := Aside0.mk (NN.out.below (below_alloc (Below.refl _ wz) (.cells #[.int .i64 kd, .int .i64 p, .slice B ys.length c2] 29)))
        have X4 := Aside0.mk (blk_new wz (.cells #[.int .i64 kd, .int .i64 p, .slice B ys.length c2] 29))
        have R4 := Aside0.mk (RowL.below RY.out (below_alloc (Below.refl _ wz) (.cells #[.int .i64 kd, .int .i64 p, .slice B ys.length c2] 29)))
        have NE := Aside0.mk (show wz.heap.size ≠ g by have := NN.out.lt; omega)
        have VE := Aside0.mk (show v.ownBlock ≠ some wz.heap.size by intro e; have := (OwnL.lt NN.out.own _ e).2; omega)
        go_wp2_with fail
        generalize wz.alloc (.cells #[.int .i64 kd, .int .i64 p, .slice B ys.length c2] 29) = w4 at *
        generalize wz.heap.size = bx at *
        refine (list_any N4.out).mono ?_
        rintro e wl ⟨u, rfl, hO, hb⟩
        have NB := Aside0.mk (N4.out.below hb)
        have OB := Aside0.mk hO
        have FB := Aside0.mk (Off.fresh (OwnL.fresh hO) N4.out (Nat.le_refl _))
        have XB := Aside0.mk (blk_below X4.out hb)
        have RB := Aside0.mk (RowL.below R4.out hb)
        clear hO hb N4 X4 R4 RY NN d0 d1 d2
        obtain ⟨A0, k0, rfl, -, -, -⟩ := OwnL.row OB.out
        have x2 : wl.cell? ⟨bx, 2, none⟩ = some (.slice B ys.length c2) := (blk_cell XB.out 2).trans rfl
        go_wp2_with fail
        refine (send_any NB.out hy RB.out).mono ?_
        rintro e w5 ⟨v5, rfl, hN, hC, hS⟩
        have bs := beside hC hS XB.out NE.out VE.out
        have X5 := Aside0.mk bs.1
        have W5 := Aside0.mk (show RowL w5 A0 zs by
          obtain ⟨A9, k9, e, hr, _⟩ := OwnL.row (OwnL.frame OB.out hC FB.out)
          simp at e
          rw [← e.1] at hr
          exact hr)
        have x5 : w5.cell? ⟨bx, 2, none⟩ = some (.slice B ys.length c2) := (blk_cell bs.1 2).trans rfl
        have hzr := NB.out.room.2.2
        cases hgo : goes rm zs ys with
        | true =>
          rw [show sent rm zs ys = zs ++ ys by simp [sent, hgo]] at hN
          have hle := hN.room
          rw [List.length_append] at hle
          have N5 := Aside0.mk hN
          clear hN hC hS bs NB OB FB XB RB x2
          have hwr : wrap64 ((zs.length : Int) + (ys.length : Int)) = (zs.length : Int) + (ys.length : Int) := by unfold wrap64; omega
          have hwr2 : IntKind.i64.wrap ((zs.length : Int) + (ys.length : Int)) = (zs.length : Int) + (ys.length : Int) := by rw [IntKind.wrap_i64]; omega
          have hcmp : decide ((if room < 0 then 0 else room) < (zs.length : Int) + (ys.length : Int)) = false := by simp; split <;> omega
          go_wp2_with fail
          refine wp_region_any (by kernel_rfl) ?_
          (try (change wpAny _ _ _ _ _ _ _ (World.drew _)))
          refine wpAny_take (i := 0) (v := ?_) rfl (by kernel_rfl) (by kernel_rfl) (by kernel_rfl) (fun _ _ _ h => h) (Or.inl ⟨by kernel_rfl, ?_⟩) ?_
          rotate_left
          · intro w; go_simp; try (with_reducible rfl)
          rotate_left
          refine wpAny_take (i := 3) (v := ?_) rfl (by kernel_rfl) (by kernel_rfl) (by kernel_rfl) (fun _ _ _ h => h) (Or.inl ⟨by kernel_rfl, ?_⟩) ?_
          rotate_left
          · intro w; go_simp; try (with_reducible rfl)
          rotate_left
          refine wpAny_take (i := 4) (v := ?_) rfl (by kernel_rfl) (by kernel_rfl) (by kernel_rfl) (fun _ _ _ h => h) (Or.inl ⟨by kernel_rfl, ?_⟩) ?_
          rotate_left
          · intro w; go_simp; try (with_reducible rfl)
          rotate_left
          generalize (if room < 0 then (0 : Int) else room) = mx0 at *
          refine wpAny_ready (rs := [1]) (by kernel_rfl) (by simp) ?_
          refine AllReady.cons rfl (fun K hK => ?_) AllReady.nil
          go_simp
          refine (list_any (NetAt.below N5.out (Below.drew (Below.refl _ _)))).mono ?_
          rintro e wl1 ⟨u, rfl, hO, hb⟩
          obtain ⟨AL1, kL1, rfl, hrL, -, -⟩ := OwnL.row hO
          have RL1 := Aside0.mk hrL
          have NL1 := Aside0.mk (NetAt.below (NetAt.below N5.out (Below.drew (Below.refl _ _))) hb)
          have WL1 := Aside0.mk (RowL.below (RowL.below W5.out (Below.drew (Below.refl _ _))) hb)
          have XL1 := Aside0.mk (blk_below (blk_drew X5.out) hb)
          clear hO hb hrL
          have xl1 : wl1.cell? ⟨bx, 2, none⟩ = some (.slice B ys.length c2) := (blk_cell XL1.out 2).trans rfl
          simp only []
          refine hK _ _ ?_
          clear hK K
          refine wpAny_take (i := 2) (v := ?_) rfl (by kernel_rfl) (by kernel_rfl) (by kernel_rfl) (fun _ _ _ h => h) (Or.inl ⟨by kernel_rfl, ?_⟩) ?_
          rotate_left
          · intro w; go_simp; try (with_reducible rfl)
          rotate_left
          refine wpAny_take (i := 5) (v := ?_) rfl (by kernel_rfl) (by kernel_rfl) (by kernel_rfl) (fun _ _ _ h => h) (Or.inl ⟨by kernel_rfl, ?_⟩) ?_
          rotate_left
          · intro w; go_simp; try (with_reducible rfl)
          rotate_left
          try rw [hcmp]
          refine wpAny_take (i := 6) (v := ?_) rfl (by kernel_rfl) (by kernel_rfl) (by kernel_rfl) (fun _ _ _ h => h) (Or.inl ⟨by kernel_rfl, ?_⟩) ?_
          rotate_left
          · intro w; go_simp; try (with_reducible rfl)
          rotate_left
          refine wpAny_take (i := 7) (v := ?_) rfl (by kernel_rfl) (by kernel_rfl) (by kernel_rfl) (fun _ _ _ h => h) (Or.inl ⟨by kernel_rfl, ?_⟩) ?_
          rotate_left
          · intro w; go_simp; try (with_reducible rfl)
          rotate_left
          refine wpAny_take (i := 8) (v := ?_) rfl (by kernel_rfl) (by kernel_rfl) (by kernel_rfl) (fun _ _ _ h => h) (Or.inl ⟨by kernel_rfl, ?_⟩) ?_
          rotate_left
          · intro w; go_simp; try (with_reducible rfl)
          rotate_left
          refine wpAny_take (i := 9) (v := ?_) rfl (by kernel_rfl) (by kernel_rfl) (by kernel_rfl) (fun _ _ _ h => h) (Or.inl ⟨by kernel_rfl, ?_⟩) ?_
          rotate_left
          · intro w; go_simp; try (with_reducible rfl)
          rotate_left
          refine wpAny_take (i := 10) (v := undef) rfl (by kernel_rfl) (by kernel_rfl) (by kernel_rfl) (fun _ _ _ h => h) (Or.inr ⟨by kernel_rfl, rfl⟩) ?_
          refine wpAny_take (i := 11) (v := undef) rfl (by kernel_rfl) (by kernel_rfl) (by kernel_rfl) (fun _ _ _ h => h) (Or.inr ⟨by kernel_rfl, rfl⟩) ?_
          refine wpAny_take (i := 12) (v := undef) rfl (by kernel_rfl) (by kernel_rfl) (by kernel_rfl) (fun _ _ _ h => h) (Or.inr ⟨by kernel_rfl, rfl⟩) ?_
          refine wpAny_take (i := 13) (v := undef) rfl (by kernel_rfl) (by kernel_rfl) (by kernel_rfl) (fun _ _ _ h => h) (Or.inr ⟨by kernel_rfl, rfl⟩) ?_
          refine wpAny_take (i := 14) (v := undef) rfl (by kernel_rfl) (by kernel_rfl) (by kernel_rfl) (fun _ _ _ h => h) (Or.inr ⟨by kernel_rfl, rfl⟩) ?_
          refine wpAny_take (i := 15) (v := ?_) rfl (by kernel_rfl) (by kernel_rfl) (by kernel_rfl) (fun _ _ _ h => h) (Or.inl ⟨by kernel_rfl, ?_⟩) ?_
          rotate_left
          · intro w; go_simp; try (with_reducible rfl)
          rotate_left
          refine wpAny_take (i := 16) (v := ?_) rfl (by kernel_rfl) (by kernel_rfl) (by kernel_rfl) (fun _ _ _ h => h) (Or.inl ⟨by kernel_rfl, ?_⟩) ?_
          rotate_left
          · intro w; go_simp; try (with_reducible rfl)
          rotate_left
          refine wpAny_take (i := 17) (v := ?_) rfl (by kernel_rfl) (by kernel_rfl) (by kernel_rfl) (fun _ _ _ h => h) (Or.inl ⟨by kernel_rfl, ?_⟩) ?_
          rotate_left
          · intro w; go_simp; try (with_reducible rfl)
          rotate_left
          refine wpAny_take (i := 18) (v := ?_) rfl (by kernel_rfl) (by kernel_rfl) (by kernel_rfl) (fun _ _ _ h => h) (Or.inl ⟨by kernel_rfl, ?_⟩) ?_
          rotate_left
          · intro w; go_simp; try (with_reducible rfl)
          rotate_left
          refine wpAny_take (i := 19) (v := ?_) rfl (by kernel_rfl) (by kernel_rfl) (by kernel_rfl) (fun _ _ _ h => h) (Or.inl ⟨by kernel_rfl, ?_⟩) ?_
          rotate_left
          · intro w; go_simp; try (with_reducible rfl)
          rotate_left
          refine wpAny_take (i := 20) (v := ?_) rfl (by kernel_rfl) (by kernel_rfl) (by kernel_rfl) (fun _ _ _ h => h) (Or.inl ⟨by kernel_rfl, ?_⟩) ?_
          rotate_left
          · intro w; go_simp; try (with_reducible rfl)
          rotate_left
          refine wpAny_take (i := 23) (v := ?_) rfl (by kernel_rfl) (by kernel_rfl) (by kernel_rfl) (fun _ _ _ h => h) (Or.inl ⟨by kernel_rfl, ?_⟩) ?_
          rotate_left
          · intro w; go_simp; try (with_reducible rfl)
          rotate_left
          refine wpAny_take (i := 24) (v := ?_) rfl (by kernel_rfl) (by kernel_rfl) (by kernel_rfl) (fun _ _ _ h => h) (Or.inl ⟨by kernel_rfl, ?_⟩) ?_
          rotate_left
          · intro w; go_simp; try (with_reducible rfl)
          rotate_left
          refine wpAny_take (i := 25) (v := ?_) rfl (by kernel_rfl) (by kernel_rfl) (by kernel_rfl) (fun _ _ _ h => h) (Or.inl ⟨by kernel_rfl, ?_⟩) ?_
          rotate_left
          · intro w; go_simp; try (with_reducible rfl)
          rotate_left
          refine wpAny_ready (rs := [21, 26]) (by kernel_rfl) (by simp) ?_
          refine AllReady.cons rfl (fun K hK => ?_) (AllReady.cons rfl (fun K hK => ?_) AllReady.nil)
          · go_simp
            refine (list_any NL1.out).mono ?_
            rintro e wl2 ⟨u, rfl, hO, hb⟩
            obtain ⟨AL2, kL2, rfl, hrL, -, -⟩ := OwnL.row hO
            have RL2 := Aside0.mk hrL
            have NL2 := Aside0.mk (NetAt.below NL1.out hb)
            have WL2 := Aside0.mk (RowL.below WL1.out hb)
            have XL2 := Aside0.mk (blk_below XL1.out hb)
            clear hO hb hrL
            have xl2 : wl2.cell? ⟨bx, 2, none⟩ = some (.slice B ys.length c2) := (blk_cell XL2.out 2).trans rfl
            simp only []
            refine hK _ _ ?_
            clear hK K
            refine wpAny_take (i := 22) (v := ?_) rfl (by kernel_rfl) (by kernel_rfl) (by kernel_rfl) (fun _ _ _ h => h) (Or.inl ⟨by kernel_rfl, ?_⟩) ?_
            rotate_left
            · intro w; go_simp; try (with_reducible rfl)
            rotate_left
            refine wpAny_ready (rs := [26]) (by kernel_rfl) (by simp) ?_
            refine AllReady.cons rfl (fun K hK => ?_) AllReady.nil
            go_simp
            refine hK _ _ ?_
            clear hK K
            refine wpAny_take (i := 27) (v := ?_) rfl (by kernel_rfl) (by kernel_rfl) (by kernel_rfl) (fun _ _ _ h => h) (Or.inl ⟨by kernel_rfl, ?_⟩) ?_
            rotate_left
            · intro w; go_simp; try (with_reducible rfl)
            rotate_left
            refine wpAny_take (i := 28) (v := ?_) rfl (by kernel_rfl) (by kernel_rfl) (by kernel_rfl) (fun _ _ _ h => h) (Or.inl ⟨by kernel_rfl, ?_⟩) ?_
            rotate_left
            · intro w; go_simp; try (with_reducible rfl)
            rotate_left
            refine wpAny_take (i := 29) (v := ?_) rfl (by kernel_rfl) (by kernel_rfl) (by kernel_rfl) (fun _ _ _ h => h) (Or.inl ⟨by kernel_rfl, ?_⟩) ?_
            rotate_left
            · intro w; go_simp; try (with_reducible rfl)
            rotate_left
            refine wpAny_take (i := 30) (v := ?_) rfl (by kernel_rfl) (by kernel_rfl) (by kernel_rfl) (fun _ _ _ h => h) (Or.inl ⟨by kernel_rfl, ?_⟩) ?_
            rotate_left
            · intro w; go_simp; try (with_reducible rfl)
            rotate_left
            refine wpAny_take (i := 31) (v := ?_) rfl (by kernel_rfl) (by kernel_rfl) (by kernel_rfl) (fun _ _ _ h => h) (Or.inl ⟨by kernel_rfl, ?_⟩) ?_
            rotate_left
            · intro w; go_simp; try (with_reducible rfl)
            rotate_left
            refine wpAny_done (by kernel_rfl) ?_ _
            have x0 : wl2.cell? ⟨bx, 0, none⟩ = some (.int .i64 kd) := (blk_cell XL2.out 0).trans rfl
            have x1 : wl2.cell? ⟨bx, 1, none⟩ = some (.int .i64 p) := (blk_cell XL2.out 1).trans rfl
            by_cases hk : 1 < kd
            · go_wp2_with fail
              refine (take_any p NL2.out).mono ?_
              rintro e w9 ⟨v9, rfl, hN, -, -⟩
              have N9 := Aside0.mk hN
              clear hN
              go_wp2
              go_roundw
              case rel => exact ⟨i + 1, taken (zs ++ ys) p, v9, by go_num, by omega, N9⟩
              case measure => simp [intOf]; omega
            · go_wp2
              go_roundw
              case rel => exact ⟨i + 1, (zs ++ ys), v5, by go_num, by omega, NL2⟩
              case measure => simp [intOf]; omega
          · go_simp
            refine hK _ _ ?_
            clear hK K
            refine wpAny_take (i := 27) (v := ?_) rfl (by kernel_rfl) (by kernel_rfl) (by kernel_rfl) (fun _ _ _ h => h) (Or.inl ⟨by kernel_rfl, ?_⟩) ?_
            rotate_left
            · intro w; go_simp; try (with_reducible rfl)
            rotate_left
            refine wpAny_take (i := 28) (v := ?_) rfl (by kernel_rfl) (by kernel_rfl) (by kernel_rfl) (fun _ _ _ h => h) (Or.inl ⟨by kernel_rfl, ?_⟩) ?_
            rotate_left
            · intro w; go_simp; try (with_reducible rfl)
            rotate_left
            refine wpAny_ready (rs := [21]) (by kernel_rfl) (by simp) ?_
            refine AllReady.cons rfl (fun K hK => ?_) AllReady.nil
            go_simp
            refine (list_any NL1.out).mono ?_
            rintro e wl2 ⟨u, rfl, hO, hb⟩
            obtain ⟨AL2, kL2, rfl, hrL, -, -⟩ := OwnL.row hO
            have RL2 := Aside0.mk hrL
            have NL2 := Aside0.mk (NetAt.below NL1.out hb)
            have WL2 := Aside0.mk (RowL.below WL1.out hb)
            have XL2 := Aside0.mk (blk_below XL1.out hb)
            clear hO hb hrL
            have xl2 : wl2.cell? ⟨bx, 2, none⟩ = some (.slice B ys.length c2) := (blk_cell XL2.out 2).trans rfl
            simp only []
            refine hK _ _ ?_
            clear hK K
            refine wpAny_take (i := 22) (v := ?_) rfl (by kernel_rfl) (by kernel_rfl) (by kernel_rfl) (fun _ _ _ h => h) (Or.inl ⟨by kernel_rfl, ?_⟩) ?_
            rotate_left
            · intro w; go_simp; try (with_reducible rfl)
            rotate_left
            refine wpAny_take (i := 29) (v := ?_) rfl (by kernel_rfl) (by kernel_rfl) (by kernel_rfl) (fun _ _ _ h => h) (Or.inl ⟨by kernel_rfl, ?_⟩) ?_
            rotate_left
            · intro w; go_simp; try (with_reducible rfl)
            rotate_left
            refine wpAny_take (i := 30) (v := ?_) rfl (by kernel_rfl) (by kernel_rfl) (by kernel_rfl) (fun _ _ _ h => h) (Or.inl ⟨by kernel_rfl, ?_⟩) ?_
            rotate_left
            · intro w; go_simp; try (with_reducible rfl)
            rotate_left
            refine wpAny_take (i := 31) (v := ?_) rfl (by kernel_rfl) (by kernel_rfl) (by kernel_rfl) (fun _ _ _ h => h) (Or.inl ⟨by kernel_rfl, ?_⟩) ?_
            rotate_left
            · intro w; go_simp; try (with_reducible rfl)
            rotate_left
            refine wpAny_done (by kernel_rfl) ?_ _
            have x0 : wl2.cell? ⟨bx, 0, none⟩ = some (.int .i64 kd) := (blk_cell XL2.out 0).trans rfl
            have x1 : wl2.cell? ⟨bx, 1, none⟩ = some (.int .i64 p) := (blk_cell XL2.out 1).trans rfl
            by_cases hk : 1 < kd
            · go_wp2_with fail
              refine (take_any p NL2.out).mono ?_
              rintro e w9 ⟨v9, rfl, hN, -, -⟩
              have N9 := Aside0.mk hN
              clear hN
              go_wp2
              go_roundw
              case rel => exact ⟨i + 1, taken (zs ++ ys) p, v9, by go_num, by omega, N9⟩
              case measure => simp [intOf]; omega
            · go_wp2
              go_roundw
              case rel => exact ⟨i + 1, (zs ++ ys), v5, by go_num, by omega, NL2⟩
              case measure => simp [intOf]; omega
        | false =>
          rw [show sent rm zs ys = zs by simp [sent, hgo]] at hN
          have N5 := Aside0.mk hN
          clear hN hC hS bs NB OB FB XB RB x2
          have hcmp : decide ((if room < 0 then 0 else room) < (zs.length : Int)) = false := by simp; split <;> omega
          go_wp2_with fail
          refine wp_region_any (by kernel_rfl) ?_
          (try (change wpAny _ _ _ _ _ _ _ (World.drew _)))
          refine wpAny_take (i := 0) (v := ?_) rfl (by kernel_rfl) (by kernel_rfl) (by kernel_rfl) (fun _ _ _ h => h) (Or.inl ⟨by kernel_rfl, ?_⟩) ?_
          rotate_left
          · intro w; go_simp; try (with_reducible rfl)
          rotate_left
          refine wpAny_take (i := 3) (v := ?_) rfl (by kernel_rfl) (by kernel_rfl) (by kernel_rfl) (fun _ _ _ h => h) (Or.inl ⟨by kernel_rfl, ?_⟩) ?_
          rotate_left
          · intro w; go_simp; try (with_reducible rfl)
          rotate_left
          refine wpAny_take (i := 4) (v := ?_) rfl (by kernel_rfl) (by kernel_rfl) (by kernel_rfl) (fun _ _ _ h => h) (Or.inl ⟨by kernel_rfl, ?_⟩) ?_
          rotate_left
          · intro w; go_simp; try (with_reducible rfl)
          rotate_left
          generalize (if room < 0 then (0 : Int) else room) = mx0 at *
          refine wpAny_ready (rs := [1]) (by kernel_rfl) (by simp) ?_
          refine AllReady.cons rfl (fun K hK => ?_) AllReady.nil
          go_simp
          refine (list_any (NetAt.below N5.out (Below.drew (Below.refl _ _)))).mono ?_
          rintro e wl1 ⟨u, rfl, hO, hb⟩
          obtain ⟨AL1, kL1, rfl, hrL, -, -⟩ := OwnL.row hO
          have RL1 := Aside0.mk hrL
          have NL1 := Aside0.mk (NetAt.below (NetAt.below N5.out (Below.drew (Below.refl _ _))) hb)
          have WL1 := Aside0.mk (RowL.below (RowL.below W5.out (Below.drew (Below.refl _ _))) hb)
          have XL1 := Aside0.mk (blk_below (blk_drew X5.out) hb)
          clear hO hb hrL
          have xl1 : wl1.cell? ⟨bx, 2, none⟩ = some (.slice B ys.length c2) := (blk_cell XL1.out 2).trans rfl
          simp only []
          refine hK _ _ ?_
          clear hK K
          refine wpAny_take (i := 2) (v := ?_) rfl (by kernel_rfl) (by kernel_rfl) (by kernel_rfl) (fun _ _ _ h => h) (Or.inl ⟨by kernel_rfl, ?_⟩) ?_
          rotate_left
          · intro w; go_simp; try (with_reducible rfl)
          rotate_left
          refine wpAny_take (i := 5) (v := ?_) rfl (by kernel_rfl) (by kernel_rfl) (by kernel_rfl) (fun _ _ _ h => h) (Or.inl ⟨by kernel_rfl, ?_⟩) ?_
          rotate_left
          · intro w; go_simp; try (with_reducible rfl)
          rotate_left
          try rw [hcmp]
          refine wpAny_take (i := 6) (v := ?_) rfl (by kernel_rfl) (by kernel_rfl) (by kernel_rfl) (fun _ _ _ h => h) (Or.inl ⟨by kernel_rfl, ?_⟩) ?_
          rotate_left
          · intro w; go_simp; try (with_reducible rfl)
          rotate_left
          refine wpAny_take (i := 7) (v := ?_) rfl (by kernel_rfl) (by kernel_rfl) (by kernel_rfl) (fun _ _ _ h => h) (Or.inl ⟨by kernel_rfl, ?_⟩) ?_
          rotate_left
          · intro w; go_simp; try (with_reducible rfl)
          rotate_left
          refine wpAny_take (i := 8) (v := ?_) rfl (by kernel_rfl) (by kernel_rfl) (by kernel_rfl) (fun _ _ _ h => h) (Or.inl ⟨by kernel_rfl, ?_⟩) ?_
          rotate_left
          · intro w; go_simp; try (with_reducible rfl)
          rotate_left
          refine wpAny_take (i := 9) (v := ?_) rfl (by kernel_rfl) (by kernel_rfl) (by kernel_rfl) (fun _ _ _ h => h) (Or.inl ⟨by kernel_rfl, ?_⟩) ?_
          rotate_left
          · intro w; go_simp; try (with_reducible rfl)
          rotate_left
          refine wpAny_take (i := 10) (v := ?_) rfl (by kernel_rfl) (by kernel_rfl) (by kernel_rfl) (fun _ _ _ h => h) (Or.inl ⟨by kernel_rfl, ?_⟩) ?_
          rotate_left
          · intro w; go_simp; try (with_reducible rfl)
          rotate_left
          refine wpAny_take (i := 12) (v := ?_) rfl (by kernel_rfl) (by kernel_rfl) (by kernel_rfl) (fun _ _ _ h => h) (Or.inl ⟨by kernel_rfl, ?_⟩) ?_
          rotate_left
          · intro w; go_simp; try (with_reducible rfl)
          rotate_left
          refine wpAny_ready (rs := [11]) (by kernel_rfl) (by simp) ?_
          refine AllReady.cons rfl (fun K hK => ?_) AllReady.nil
          go_simp
          refine (list_any NL1.out).mono ?_
          rintro e wl2 ⟨u, rfl, hO, hb⟩
          obtain ⟨AL2, kL2, rfl, hrL, -, -⟩ := OwnL.row hO
          have RL2 := Aside0.mk hrL
          have NL2 := Aside0.mk (NetAt.below NL1.out hb)
          have WL2 := Aside0.mk (RowL.below WL1.out hb)
          have XL2 := Aside0.mk (blk_below XL1.out hb)
          clear hO hb hrL
          have xl2 : wl2.cell? ⟨bx, 2, none⟩ = some (.slice B ys.length c2) := (blk_cell XL2.out 2).trans rfl
          simp only []
          refine hK _ _ ?_
          clear hK K
          refine wpAny_ready (rs := [13]) (by kernel_rfl) (by simp) ?_
          refine AllReady.cons rfl (fun K hK => ?_) AllReady.nil
          go_simp
          refine (same_any RL2.out WL2.out (by omega) (by omega)).mono ?_
          rintro e wl3 ⟨r, rfl, hr, hb⟩
          obtain rfl : r = true := hr.2 rfl
          have NL3 := Aside0.mk (NetAt.below NL2.out hb)
          have XL3 := Aside0.mk (blk_below XL2.out hb)
          clear hr hb
          simp only []
          refine hK _ _ ?_
          clear hK K
          refine wpAny_take (i := 14) (v := ?_) rfl (by kernel_rfl) (by kernel_rfl) (by kernel_rfl) (fun _ _ _ h => h) (Or.inl ⟨by kernel_rfl, ?_⟩) ?_
          rotate_left
          · intro w; go_simp; try (with_reducible rfl)
          rotate_left
          refine wpAny_take (i := 15) (v := ?_) rfl (by kernel_rfl) (by kernel_rfl) (by kernel_rfl) (fun _ _ _ h => h) (Or.inl ⟨by kernel_rfl, ?_⟩) ?_
          rotate_left
          · intro w; go_simp; try (with_reducible rfl)
          rotate_left
          refine wpAny_take (i := 16) (v := ?_) rfl (by kernel_rfl) (by kernel_rfl) (by kernel_rfl) (fun _ _ _ h => h) (Or.inl ⟨by kernel_rfl, ?_⟩) ?_
          rotate_left
          · intro w; go_simp; try (with_reducible rfl)
          rotate_left
          refine wpAny_take (i := 17) (v := ?_) rfl (by kernel_rfl) (by kernel_rfl) (by kernel_rfl) (fun _ _ _ h => h) (Or.inl ⟨by kernel_rfl, ?_⟩) ?_
          rotate_left
          · intro w; go_simp; try (with_reducible rfl)
          rotate_left
          refine wpAny_take (i := 18) (v := ?_) rfl (by kernel_rfl) (by kernel_rfl) (by kernel_rfl) (fun _ _ _ h => h) (Or.inl ⟨by kernel_rfl, ?_⟩) ?_
          rotate_left
          · intro w; go_simp; try (with_reducible rfl)
          rotate_left
          refine wpAny_take (i := 19) (v := ?_) rfl (by kernel_rfl) (by kernel_rfl) (by kernel_rfl) (fun _ _ _ h => h) (Or.inl ⟨by kernel_rfl, ?_⟩) ?_
          rotate_left
          · intro w; go_simp; try (with_reducible rfl)
          rotate_left
          refine wpAny_take (i := 20) (v := undef) rfl (by kernel_rfl) (by kernel_rfl) (by kernel_rfl) (fun _ _ _ h => h) (Or.inr ⟨by kernel_rfl, rfl⟩) ?_
          refine wpAny_take (i := 21) (v := undef) rfl (by kernel_rfl) (by kernel_rfl) (by kernel_rfl) (fun _ _ _ h => h) (Or.inr ⟨by kernel_rfl, rfl⟩) ?_
          refine wpAny_take (i := 22) (v := undef) rfl (by kernel_rfl) (by kernel_rfl) (by kernel_rfl) (fun _ _ _ h => h) (Or.inr ⟨by kernel_rfl, rfl⟩) ?_
          refine wpAny_take (i := 23) (v := undef) rfl (by kernel_rfl) (by kernel_rfl) (by kernel_rfl) (fun _ _ _ h => h) (Or.inr ⟨by kernel_rfl, rfl⟩) ?_
          refine wpAny_take (i := 24) (v := undef) rfl (by kernel_rfl) (by kernel_rfl) (by kernel_rfl) (fun _ _ _ h => h) (Or.inr ⟨by kernel_rfl, rfl⟩) ?_
          refine wpAny_take (i := 25) (v := undef) rfl (by kernel_rfl) (by kernel_rfl) (by kernel_rfl) (fun _ _ _ h => h) (Or.inr ⟨by kernel_rfl, rfl⟩) ?_
          refine wpAny_take (i := 26) (v := undef) rfl (by kernel_rfl) (by kernel_rfl) (by kernel_rfl) (fun _ _ _ h => h) (Or.inr ⟨by kernel_rfl, rfl⟩) ?_
          refine wpAny_take (i := 27) (v := undef) rfl (by kernel_rfl) (by kernel_rfl) (by kernel_rfl) (fun _ _ _ h => h) (Or.inr ⟨by kernel_rfl, rfl⟩) ?_
          refine wpAny_take (i := 28) (v := undef) rfl (by kernel_rfl) (by kernel_rfl) (by kernel_rfl) (fun _ _ _ h => h) (Or.inr ⟨by kernel_rfl, rfl⟩) ?_
          refine wpAny_take (i := 29) (v := undef) rfl (by kernel_rfl) (by kernel_rfl) (by kernel_rfl) (fun _ _ _ h => h) (Or.inr ⟨by kernel_rfl, rfl⟩) ?_
          refine wpAny_take (i := 30) (v := ?_) rfl (by kernel_rfl) (by kernel_rfl) (by kernel_rfl) (fun _ _ _ h => h) (Or.inl ⟨by kernel_rfl, ?_⟩) ?_
          rotate_left
          · intro w; go_simp; try (with_reducible rfl)
          rotate_left
          refine wpAny_take (i := 31) (v := ?_) rfl (by kernel_rfl) (by kernel_rfl) (by kernel_rfl) (fun _ _ _ h => h) (Or.inl ⟨by kernel_rfl, ?_⟩) ?_
          rotate_left
          · intro w; go_simp; try (with_reducible rfl)
          rotate_left
          refine wpAny_done (by kernel_rfl) ?_ _
          (try go_simp)
          have x0 : wl3.cell? ⟨bx, 0, none⟩ = some (.int .i64 kd) := (blk_cell XL3.out 0).trans rfl
          have x1 : wl3.cell? ⟨bx, 1, none⟩ = some (.int .i64 p) := (blk_cell XL3.out 1).trans rfl
          by_cases hk : 1 < kd
          · go_wp2_with fail
            refine (take_any p NL3.out).mono ?_
            rintro e w9 ⟨v9, rfl, hN, -, -⟩
            have N9 := Aside0.mk hN
            clear hN
            go_wp2
            go_roundw
            case rel => exact ⟨i + 1, taken zs p, v9, by go_num, by omega, N9⟩
            case measure => simp [intOf]; omega
          · go_wp2
            go_roundw
            case rel => exact ⟨i + 1, zs, v5, by go_num, by omega, NL3⟩
            case measure => simp [intOf]; omega
      · have : i = xs.length := by omega
        subst this
        go_wp2
        go_ret
        exact ⟨rfl, NN.out.bel⟩

end Go.Proofs.Ytedfjadgfkbfiaa.NetW
