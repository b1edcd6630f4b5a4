/- NetPlays, walked. -/
import Derived.Test.YtedfjadgfkbfiaaNetRefAny
import Derived.Test.YtedfjadgfkbfiaaNetAwake
import Derived.Deep.DeepCutAuto
import Derived.Deep.LoopGhost
namespace Go.Proofs.Ytedfjadgfkbfiaa.NetW
open Go.RowKit Go.Proofs.YtedfjadgfkbfiaaW.PrintWords Go.Proofs.Ytedfjadgfkbfiaa.Opens
set_option linter.unusedVariables false
set_option linter.unusedSimpArgs false
attribute [local go_sem] nil27 World.cell?_alloc_some
attribute [local go_sem high] eqA36

theorem great_le {xs : List ActN} {i k p : Nat} {a b : Int} {B : Option Addr} {c : Nat} {ys : List LetR} (h : (decide (200 < xs.length) || xs.any fun a => decide (50 < a.2.2.2.2.length)) = false) (hi : i < xs.length) (hx : xs.getD i n0 = (a, b, B, c, ys)) : ys.length ≤ 50 := by
  simp only [Bool.or_eq_false_iff, List.any_eq_false, decide_eq_true_eq] at h
  have h1 := h.2 (xs.getD i n0) (by simp [List.getD_eq_getElem?_getD, hi])
  rw [hx] at h1
  simpa using h1
/-- The net is turned: the reference's, and the letter of the act, stand. -/
theorem pairL {rm : Int} {zs zs2 : List LetR} {v v2 v' : Value} {g q : Nat} {w w1 w2 : World} (M : NetAt 47 rm zs v' q w w1) (P : Apt g v q v') (hN : NetAt 80 rm zs2 v2 g w w2) (hC : Chg g v.ownBlock w1 w2) (hS : Since w1.heap.size v v2) : NetAt 47 rm zs v' q w w2 ∧ Apt g v2 q v' :=
  ⟨M.frame hC P.symm hN.bel, (P.symm.since M hS).symm⟩
theorem pairR {rm : Int} {zs zs2 : List LetR} {v v2 v' : Value} {g q : Nat} {w w1 w2 : World} (N : NetAt 80 rm zs v g w w1) (P : Apt g v q v') (hM : NetAt 47 rm zs2 v2 q w w2) (hC : Chg q v'.ownBlock w1 w2) (hS : Since w1.heap.size v' v2) : NetAt 80 rm zs v g w w2 ∧ Apt g v q v2 :=
  ⟨N.frame hC P hM.bel, P.since N hS⟩

set_option maxHeartbeats 32000000 in
set_option maxRecDepth 100000 in
theorem plays_any (room : Int) {A : Option Addr} {xs : List ActN} {c : Nat} (w : World) (hR : RowN w A xs) (hl : xs.length ≤ 9223372036854775807) : Calls Try.prog 7 #[.int .i64 room, .slice A xs.length c] w (RN true w) := by
  have R := Aside0.mk hR
  clear hR
  cases hgr : (decide (200 < xs.length) || xs.any fun a => decide (50 < a.2.2.2.2.length)) with
  | true =>
    go_enter Try.func7, Try.ntmps7
    go_wp2_with fail
    refine (awake_any _).mono ?_
    rintro e w1 ⟨rfl, hb⟩
    have B1 := Aside0.mk hb
    clear hb
    go_wp2_with fail
    refine (great_any _ (R.out.below B1.out) hl).mono ?_
    rintro e w2 ⟨rfl, hb⟩
    have B2 := Aside0.mk (B1.out.trans (hb.mono B1.out.size))
    clear hb
    rw [hgr]
    go_wp2_with fail
    refine (awake_any _).mono ?_
    rintro e w3 ⟨rfl, hb⟩
    have B3 := Aside0.mk (B2.out.trans (hb.mono B2.out.size))
    clear hb
    go_wp2
    go_ret
    exact ⟨rfl, B3.out⟩
  | false =>
    have GR := Aside0.mk hgr
    go_enter Try.func7, Try.ntmps7
    go_wp2_with fail
    refine (awake_any _).mono ?_
    rintro e w1 ⟨rfl, hb⟩
    have B1 := Aside0.mk hb
    clear hb
    go_wp2_with fail
    refine (great_any _ (R.out.below B1.out) hl).mono ?_
    rintro e w2 ⟨rfl, hb⟩
    have B2 := Aside0.mk (B1.out.trans (hb.mono B1.out.size))
    clear hb
    rw [hgr]
    clear hgr
    go_wp2_with fail
    refine (new_any room w _ B2.out).mono ?_
    rintro e w3 ⟨rfl, hN, -⟩
    have N3 := Aside0.mk hN
    clear hN
    generalize w2.heap.size = g at *
    have hroom := roomOf_ok room
    generalize hrm : roomOf room = rm at *
    go_wp2_with fail
    refine (rnew_any room w _ N3.out.bel).mono ?_
    rintro e w4 ⟨rfl, hM, hb⟩
    rw [hrm] at hM
    have P3 := Aside0.mk (Apt.fresh (g3 := w3.heap.size) (v3 := .slice none 0 0) N3.out (Nat.le_refl _) (fun b hb => by simp [Value.ownBlock] at hb))
    have N4 := Aside0.mk (N3.out.below hb)
    have M4 := Aside0.mk hM
    clear hM hb N3 hroom hrm
    generalize w3.heap.size = q at *
    go_wp2_with fail
    go_loopw [5, 29] (fun v5 v29 wz => ∃ (i g : Nat) (zs : List LetR) (v v' : Value), v5 = .pointer (some ⟨g, 0, none⟩) ∧ v29 = .int .i64 i ∧ i ≤ xs.length ∧ Aside0 (NetAt 80 rm zs v g w wz) ∧ Aside0 (NetAt 47 rm zs v' q w wz) ∧ Aside0 (Apt g v q v')) (fun _ v29 _ => xs.length - (intOf v29).toNat)
    case atStart => exact ⟨0, g, [], _, _, rfl, rfl, Nat.zero_le _, N4, M4, P3⟩
    case round =>
      clear N4 M4 P3
      obtain ⟨wz, rfl⟩ : ∃ wz : World, wz = wr := ⟨_, rfl⟩
      obtain ⟨i, g, zs, v, v', rfl, rfl, hi, NN, MM, PP⟩ := hrel
      by_cases hlt : i < xs.length
      · have hq : (i : Int) < (xs.length : Int) := by omega
        have hq0 : (0 : Int) ≤ (i : Int) := by omega
        obtain ⟨ad, kd, p, B, c2, ys, rfl, hx, a0, a1, a2, hr, hy⟩ := R.out.at_ hlt
        have RW := Aside0.mk hr
        have h50 := Aside0.mk (great_le (k := 0) (p := 0) GR.out hlt hx)
        have d0 := (NN.out.bel.cell (World.block_lt_of_cell? _ _ a0)).trans a0
        have d1 := (NN.out.bel.cell (World.block_lt_of_cell? _ _ a1)).trans a1
        have d2 := (NN.out.bel.cell (World.block_lt_of_cell? _ _ a2)).trans a2
        clear hx hr a0 a1 a2
        have N4 := Aside0.mk (NN.out.below (below_alloc (Below.refl _ wz) (.cells #[.int .i64 kd, .int .i64 p, .slice B ys.length c2] 29)))
        have M4 := Aside0.mk (MM.out.below (below_alloc (Below.refl _ wz) (.cells #[.int .i64 kd, .int .i64 p, .slice B ys.length c2] 29)))
        have X4 := Aside0.mk (blk_new wz (.cells #[.int .i64 kd, .int .i64 p, .slice B ys.length c2] 29))
        have NE := Aside0.mk (show wz.heap.size ≠ g by have := NN.out.lt; omega)
        have VE := Aside0.mk (show v.ownBlock ≠ some wz.heap.size by intro e; have := (OwnL.lt NN.out.own _ e).2; omega)
        have NQ := Aside0.mk (show wz.heap.size ≠ q by have := MM.out.lt; omega)
        have VQ := Aside0.mk (show v'.ownBlock ≠ some wz.heap.size by intro e; have := (OwnL.lt MM.out.own _ e).2; omega)
        go_upto_block 2 with fail
        clear d0 d1 d2
        go_cut [5] (fun v5 wx => ∃ (g2 : Nat) (zs2 : List LetR) (v2 v2' : Value), v5 = .pointer (some ⟨g2, 0, none⟩) ∧ Aside0 (NetAt 80 rm zs2 v2 g2 w wx) ∧ Aside0 (NetAt 47 rm zs2 v2' q w wx) ∧ Aside0 (Apt g2 v2 q v2'))
        case first =>
          by_cases h1 : kd = 1
          · have k1 : (kd == 1) = true := beq_iff_eq.2 h1
            clear h1
            go_wp2_with fail
            generalize wz.alloc (.cells #[.int .i64 kd, .int .i64 p, .slice B ys.length c2] 29) = w4 at *
            generalize wz.heap.size = bx at *
            refine wp_region_any (by kernel_rfl) ?_
            (try (change wpAny _ _ _ _ _ _ _ (World.drew _)))
            generalize hw5 : World.drew _ = w5
            have N5 := Aside0.mk (show NetAt 80 rm zs v g w w5 from by rw [← hw5]; exact N4.out.below (Below.drew (Below.refl _ _)))
            have M5 := Aside0.mk (show NetAt 47 rm zs v' q w w5 from by rw [← hw5]; exact M4.out.below (Below.drew (Below.refl _ _)))
            have X5 := Aside0.mk (show w5.heap[bx]? = some (.cells #[.int .i64 kd, .int .i64 p, .slice B ys.length c2] 29 (0, 0)) from by rw [← hw5]; exact blk_drew X4.out)
            clear hw5 N4 M4 X4
            have BB0 := Aside0.mk (Below.refl w5.heap.size w5)
            have cc0 : w5.cell? ⟨bx, 2, none⟩ = some (.slice B ys.length c2) := (blk_cell X5.out 2).trans rfl
            refine wpAny_take (i := 0) (v := ?_) rfl (by kernel_rfl) (by kernel_rfl) (by kernel_rfl) (fun _ _ _ h => h) (Or.inl ⟨by kernel_rfl, ?_⟩) ?_
            rotate_left
            · intro w; go_simp; try (with_reducible rfl)
            rotate_left
            refine wpAny_take (i := 2) (v := ?_) rfl (by kernel_rfl) (by kernel_rfl) (by kernel_rfl) (fun _ _ _ h => h) (Or.inl ⟨by kernel_rfl, ?_⟩) ?_
            rotate_left
            · intro w; go_simp; try (with_reducible rfl)
            rotate_left
            refine wpAny_take (i := 6) (v := ?_) rfl (by kernel_rfl) (by kernel_rfl) (by kernel_rfl) (fun _ _ _ h => h) (Or.inl ⟨by kernel_rfl, ?_⟩) ?_
            rotate_left
            · intro w; go_simp; try (with_reducible rfl)
            rotate_left
            refine wpAny_take (i := 7) (v := ?_) rfl (by kernel_rfl) (by kernel_rfl) (by kernel_rfl) (fun _ _ _ h => h) (Or.inl ⟨by kernel_rfl, ?_⟩) ?_
            rotate_left
            · intro w; go_simp; try (with_reducible rfl)
            rotate_left
            refine wpAny_ready (rs := [1, 3, 8]) (by kernel_rfl) (by simp) ?_
            refine AllReady.cons rfl (fun K hK => ?_) (AllReady.cons rfl (fun K hK => ?_) (AllReady.cons rfl (fun K hK => ?_) AllReady.nil))
            · go_simp
              (try go_simp)
              refine hK _ _ ?_
              clear hK K
              have OO1 := Aside0.mk (show OwnL w5.heap.size (.slice (some ⟨w5.heap.size, 0, none⟩) 0 0) [] (w5.alloc (.cells #[] 36)) from World.ownsRow_made w5 #[] 0 (BB0.out.size) (Nat.zero_le _) rfl)
              have BB1 := Aside0.mk (show Below w5.heap.size w5 (w5.alloc (.cells #[] 36)) from below_alloc BB0.out (.cells #[] 36))
              have cc1 : (w5.alloc (.cells #[] 36)).cell? ⟨bx, 2, none⟩ = some (.slice B ys.length c2) := (blk_cell (blk_below X5.out BB1.out) 2).trans rfl
              refine wpAny_ready (rs := [3, 8]) (by kernel_rfl) (by simp) ?_
              refine AllReady.cons rfl (fun K hK => ?_) (AllReady.cons rfl (fun K hK => ?_) AllReady.nil)
              · go_simp
                (try go_simp)
                refine hK _ _ ?_
                clear hK K
                refine wpAny_ready (rs := [4, 8]) (by kernel_rfl) (by simp) ?_
                refine AllReady.cons rfl (fun K hK => ?_) (AllReady.cons rfl (fun K hK => ?_) AllReady.nil)
                · refine step_app2 (ys := ys) rfl _ _ rfl rfl rfl rfl OO1.out (RowL.below RW.out (N5.out.below BB1.out).bel) (by have := h50.out; simp; omega) BB1.out.size ?_
                  intro v1 w3a hO1 hg1 hs1
                  obtain ⟨A3, k3, rfl, hr3, -, -⟩ := OwnL.row hO1
                  have RR3 := Aside0.mk (show RowL w3a A3 ys from hr3)
                  have BB3 := Aside0.mk (show Below w5.heap.size w5 w3a from BB1.out.grown hg1 BB1.out.size (fun k hk => (OwnL.lt OO1.out k hk).1))
                  have cc3 : w3a.cell? ⟨bx, 2, none⟩ = some (.slice B ys.length c2) := (blk_cell (blk_below X5.out BB3.out) 2).trans rfl
                  clear hO1 hg1 hs1 hr3
                  simp only [List.nil_append]
                  (try go_simp)
                  refine hK _ _ ?_
                  clear hK K
                  refine wpAny_ready (rs := [5, 8]) (by kernel_rfl) (by simp) ?_
                  refine AllReady.cons rfl (fun K hK => ?_) (AllReady.cons rfl (fun K hK => ?_) AllReady.nil)
                  · go_simp
                    refine (send_any (N5.out.below BB3.out) hy RR3.out).mono ?_
                    rintro e w4a ⟨v4a, rfl, hN, hC, hS⟩
                    have pr := pairL (M5.out.below BB3.out) PP.out hN hC hS
                    have bs := beside hC hS (blk_below X5.out BB3.out) NE.out VE.out
                    have N4x := Aside0.mk hN
                    have M4x := Aside0.mk pr.1
                    have P4x := Aside0.mk pr.2
                    have cc4 : w4a.cell? ⟨bx, 2, none⟩ = some (.slice B ys.length c2) := (blk_cell bs.1 2).trans rfl
                    clear hN hC hS pr bs
                    (try go_simp)
                    refine hK _ _ ?_
                    clear hK K
                    refine wpAny_ready (rs := [8]) (by kernel_rfl) (by simp) ?_
                    refine AllReady.cons rfl (fun K hK => ?_) AllReady.nil
                    go_simp
                    (try go_simp)
                    refine hK _ _ ?_
                    clear hK K
                    refine wpAny_ready (rs := [9]) (by kernel_rfl) (by simp) ?_
                    refine AllReady.cons rfl (fun K hK => ?_) AllReady.nil
                    go_simp
                    refine (rsend_any M4x.out (by have := h50.out; omega) (RowL.below RW.out M4x.out.bel)).mono ?_
                    rintro e w6a ⟨v6a, rfl, hN, hC, hS⟩
                    have pr := pairR N4x.out P4x.out hN hC hS
                    have N6x := Aside0.mk pr.1
                    have M6x := Aside0.mk hN
                    have P6x := Aside0.mk pr.2
                    clear hN hC hS pr
                    (try go_simp)
                    refine hK _ _ ?_
                    clear hK K
                    refine wpAny_take (i := 10) (v := ?_) rfl (by kernel_rfl) (by kernel_rfl) (by kernel_rfl) (fun _ _ _ h => h) (Or.inl ⟨by kernel_rfl, ?_⟩) ?_
                    rotate_left
                    · intro w; go_simp; try (with_reducible rfl)
                    rotate_left
                    refine wpAny_done (by kernel_rfl) ?_ _
                    go_wp2
                    go_meet
                    exact ⟨g, sent rm zs ys, _, _, rfl, N6x, M6x, P6x⟩
                  · go_simp
                    (try go_simp)
                    refine hK _ _ ?_
                    clear hK K
                    refine wpAny_ready (rs := [5]) (by kernel_rfl) (by simp) ?_
                    refine AllReady.cons rfl (fun K hK => ?_) AllReady.nil
                    go_simp
                    refine (send_any (N5.out.below BB3.out) hy RR3.out).mono ?_
                    rintro e w8a ⟨v8a, rfl, hN, hC, hS⟩
                    have pr := pairL (M5.out.below BB3.out) PP.out hN hC hS
                    have bs := beside hC hS (blk_below X5.out BB3.out) NE.out VE.out
                    have N8x := Aside0.mk hN
                    have M8x := Aside0.mk pr.1
                    have P8x := Aside0.mk pr.2
                    have cc8 : w8a.cell? ⟨bx, 2, none⟩ = some (.slice B ys.length c2) := (blk_cell bs.1 2).trans rfl
                    clear hN hC hS pr bs
                    (try go_simp)
                    refine hK _ _ ?_
                    clear hK K
                    refine wpAny_ready (rs := [9]) (by kernel_rfl) (by simp) ?_
                    refine AllReady.cons rfl (fun K hK => ?_) AllReady.nil
                    go_simp
                    refine (rsend_any M8x.out (by have := h50.out; omega) (RowL.below RW.out M8x.out.bel)).mono ?_
                    rintro e w9a ⟨v9a, rfl, hN, hC, hS⟩
                    have pr := pairR N8x.out P8x.out hN hC hS
                    have N9x := Aside0.mk pr.1
                    have M9x := Aside0.mk hN
                    have P9x := Aside0.mk pr.2
                    clear hN hC hS pr
                    (try go_simp)
                    refine hK _ _ ?_
                    clear hK K
                    refine wpAny_take (i := 10) (v := ?_) rfl (by kernel_rfl) (by kernel_rfl) (by kernel_rfl) (fun _ _ _ h => h) (Or.inl ⟨by kernel_rfl, ?_⟩) ?_
                    rotate_left
                    · intro w; go_simp; try (with_reducible rfl)
                    rotate_left
                    refine wpAny_done (by kernel_rfl) ?_ _
                    go_wp2
                    go_meet
                    exact ⟨g, sent rm zs ys, _, _, rfl, N9x, M9x, P9x⟩
                · go_simp
                  (try go_simp)
                  refine hK _ _ ?_
                  clear hK K
                  refine wpAny_ready (rs := [4]) (by kernel_rfl) (by simp) ?_
                  refine AllReady.cons rfl (fun K hK => ?_) AllReady.nil
                  refine step_app2 (ys := ys) rfl _ _ rfl rfl rfl rfl OO1.out (RowL.below RW.out (N5.out.below BB1.out).bel) (by have := h50.out; simp; omega) BB1.out.size ?_
                  intro v1 w11a hO1 hg1 hs1
                  obtain ⟨A11, k11, rfl, hr11, -, -⟩ := OwnL.row hO1
                  have RR11 := Aside0.mk (show RowL w11a A11 ys from hr11)
                  have BB11 := Aside0.mk (show Below w5.heap.size w5 w11a from BB1.out.grown hg1 BB1.out.size (fun k hk => (OwnL.lt OO1.out k hk).1))
                  have cc11 : w11a.cell? ⟨bx, 2, none⟩ = some (.slice B ys.length c2) := (blk_cell (blk_below X5.out BB11.out) 2).trans rfl
                  clear hO1 hg1 hs1 hr11
                  simp only [List.nil_append]
                  (try go_simp)
                  refine hK _ _ ?_
                  clear hK K
                  refine wpAny_ready (rs := [5]) (by kernel_rfl) (by simp) ?_
                  refine AllReady.cons rfl (fun K hK => ?_) AllReady.nil
                  go_simp
                  refine (send_any (N5.out.below BB11.out) hy RR11.out).mono ?_
                  rintro e w12a ⟨v12a, rfl, hN, hC, hS⟩
                  have pr := pairL (M5.out.below BB11.out) PP.out hN hC hS
                  have bs := beside hC hS (blk_below X5.out BB11.out) NE.out VE.out
                  have N12x := Aside0.mk hN
                  have M12x := Aside0.mk pr.1
                  have P12x := Aside0.mk pr.2
                  have cc12 : w12a.cell? ⟨bx, 2, none⟩ = some (.slice B ys.length c2) := (blk_cell bs.1 2).trans rfl
                  clear hN hC hS pr bs
                  (try go_simp)
                  refine hK _ _ ?_
                  clear hK K
                  refine wpAny_ready (rs := [9]) (by kernel_rfl) (by simp) ?_
                  refine AllReady.cons rfl (fun K hK => ?_) AllReady.nil
                  go_simp
                  refine (rsend_any M12x.out (by have := h50.out; omega) (RowL.below RW.out M12x.out.bel)).mono ?_
                  rintro e w13a ⟨v13a, rfl, hN, hC, hS⟩
                  have pr := pairR N12x.out P12x.out hN hC hS
                  have N13x := Aside0.mk pr.1
                  have M13x := Aside0.mk hN
                  have P13x := Aside0.mk pr.2
                  clear hN hC hS pr
                  (try go_simp)
                  refine hK _ _ ?_
                  clear hK K
                  refine wpAny_take (i := 10) (v := ?_) rfl (by kernel_rfl) (by kernel_rfl) (by kernel_rfl) (fun _ _ _ h => h) (Or.inl ⟨by kernel_rfl, ?_⟩) ?_
                  rotate_left
                  · intro w; go_simp; try (with_reducible rfl)
                  rotate_left
                  refine wpAny_done (by kernel_rfl) ?_ _
                  go_wp2
                  go_meet
                  exact ⟨g, sent rm zs ys, _, _, rfl, N13x, M13x, P13x⟩
              · go_simp
                (try go_simp)
                refine hK _ _ ?_
                clear hK K
                refine wpAny_ready (rs := [3]) (by kernel_rfl) (by simp) ?_
                refine AllReady.cons rfl (fun K hK => ?_) AllReady.nil
                go_simp
                (try go_simp)
                refine hK _ _ ?_
                clear hK K
                refine wpAny_ready (rs := [4]) (by kernel_rfl) (by simp) ?_
                refine AllReady.cons rfl (fun K hK => ?_) AllReady.nil
                refine step_app2 (ys := ys) rfl _ _ rfl rfl rfl rfl OO1.out (RowL.below RW.out (N5.out.below BB1.out).bel) (by have := h50.out; simp; omega) BB1.out.size ?_
                intro v1 w16a hO1 hg1 hs1
                obtain ⟨A16, k16, rfl, hr16, -, -⟩ := OwnL.row hO1
                have RR16 := Aside0.mk (show RowL w16a A16 ys from hr16)
                have BB16 := Aside0.mk (show Below w5.heap.size w5 w16a from BB1.out.grown hg1 BB1.out.size (fun k hk => (OwnL.lt OO1.out k hk).1))
                have cc16 : w16a.cell? ⟨bx, 2, none⟩ = some (.slice B ys.length c2) := (blk_cell (blk_below X5.out BB16.out) 2).trans rfl
                clear hO1 hg1 hs1 hr16
                simp only [List.nil_append]
                (try go_simp)
                refine hK _ _ ?_
                clear hK K
                refine wpAny_ready (rs := [5]) (by kernel_rfl) (by simp) ?_
                refine AllReady.cons rfl (fun K hK => ?_) AllReady.nil
                go_simp
                refine (send_any (N5.out.below BB16.out) hy RR16.out).mono ?_
                rintro e w17a ⟨v17a, rfl, hN, hC, hS⟩
                have pr := pairL (M5.out.below BB16.out) PP.out hN hC hS
                have bs := beside hC hS (blk_below X5.out BB16.out) NE.out VE.out
                have N17x := Aside0.mk hN
                have M17x := Aside0.mk pr.1
                have P17x := Aside0.mk pr.2
                have cc17 : w17a.cell? ⟨bx, 2, none⟩ = some (.slice B ys.length c2) := (blk_cell bs.1 2).trans rfl
                clear hN hC hS pr bs
                (try go_simp)
                refine hK _ _ ?_
                clear hK K
                refine wpAny_ready (rs := [9]) (by kernel_rfl) (by simp) ?_
                refine AllReady.cons rfl (fun K hK => ?_) AllReady.nil
                go_simp
                refine (rsend_any M17x.out (by have := h50.out; omega) (RowL.below RW.out M17x.out.bel)).mono ?_
                rintro e w18a ⟨v18a, rfl, hN, hC, hS⟩
                have pr := pairR N17x.out P17x.out hN hC hS
                have N18x := Aside0.mk pr.1
                have M18x := Aside0.mk hN
                have P18x := Aside0.mk pr.2
                clear hN hC hS pr
                (try go_simp)
                refine hK _ _ ?_
                clear hK K
                refine wpAny_take (i := 10) (v := ?_) rfl (by kernel_rfl) (by kernel_rfl) (by kernel_rfl) (fun _ _ _ h => h) (Or.inl ⟨by kernel_rfl, ?_⟩) ?_
                rotate_left
                · intro w; go_simp; try (with_reducible rfl)
                rotate_left
                refine wpAny_done (by kernel_rfl) ?_ _
                go_wp2
                go_meet
                exact ⟨g, sent rm zs ys, _, _, rfl, N18x, M18x, P18x⟩
            · go_simp
              (try go_simp)
              refine hK _ _ ?_
              clear hK K
              refine wpAny_ready (rs := [1, 8]) (by kernel_rfl) (by simp) ?_
              refine AllReady.cons rfl (fun K hK => ?_) (AllReady.cons rfl (fun K hK => ?_) AllReady.nil)
              · go_simp
                (try go_simp)
                refine hK _ _ ?_
                clear hK K
                have OO20 := Aside0.mk (show OwnL w5.heap.size (.slice (some ⟨w5.heap.size, 0, none⟩) 0 0) [] (w5.alloc (.cells #[] 36)) from World.ownsRow_made w5 #[] 0 (BB0.out.size) (Nat.zero_le _) rfl)
                have BB20 := Aside0.mk (show Below w5.heap.size w5 (w5.alloc (.cells #[] 36)) from below_alloc BB0.out (.cells #[] 36))
                have cc20 : (w5.alloc (.cells #[] 36)).cell? ⟨bx, 2, none⟩ = some (.slice B ys.length c2) := (blk_cell (blk_below X5.out BB20.out) 2).trans rfl
                refine wpAny_ready (rs := [4, 8]) (by kernel_rfl) (by simp) ?_
                refine AllReady.cons rfl (fun K hK => ?_) (AllReady.cons rfl (fun K hK => ?_) AllReady.nil)
                · refine step_app2 (ys := ys) rfl _ _ rfl rfl rfl rfl OO20.out (RowL.below RW.out (N5.out.below BB20.out).bel) (by have := h50.out; simp; omega) BB20.out.size ?_
                  intro v1 w21a hO1 hg1 hs1
                  obtain ⟨A21, k21, rfl, hr21, -, -⟩ := OwnL.row hO1
                  have RR21 := Aside0.mk (show RowL w21a A21 ys from hr21)
                  have BB21 := Aside0.mk (show Below w5.heap.size w5 w21a from BB20.out.grown hg1 BB20.out.size (fun k hk => (OwnL.lt OO20.out k hk).1))
                  have cc21 : w21a.cell? ⟨bx, 2, none⟩ = some (.slice B ys.length c2) := (blk_cell (blk_below X5.out BB21.out) 2).trans rfl
                  clear hO1 hg1 hs1 hr21
                  simp only [List.nil_append]
                  (try go_simp)
                  refine hK _ _ ?_
                  clear hK K
                  refine wpAny_ready (rs := [5, 8]) (by kernel_rfl) (by simp) ?_
                  refine AllReady.cons rfl (fun K hK => ?_) (AllReady.cons rfl (fun K hK => ?_) AllReady.nil)
                  · go_simp
                    refine (send_any (N5.out.below BB21.out) hy RR21.out).mono ?_
                    rintro e w22a ⟨v22a, rfl, hN, hC, hS⟩
                    have pr := pairL (M5.out.below BB21.out) PP.out hN hC hS
                    have bs := beside hC hS (blk_below X5.out BB21.out) NE.out VE.out
                    have N22x := Aside0.mk hN
                    have M22x := Aside0.mk pr.1
                    have P22x := Aside0.mk pr.2
                    have cc22 : w22a.cell? ⟨bx, 2, none⟩ = some (.slice B ys.length c2) := (blk_cell bs.1 2).trans rfl
                    clear hN hC hS pr bs
                    (try go_simp)
                    refine hK _ _ ?_
                    clear hK K
                    refine wpAny_ready (rs := [8]) (by kernel_rfl) (by simp) ?_
                    refine AllReady.cons rfl (fun K hK => ?_) AllReady.nil
                    go_simp
                    (try go_simp)
                    refine hK _ _ ?_
                    clear hK K
                    refine wpAny_ready (rs := [9]) (by kernel_rfl) (by simp) ?_
                    refine AllReady.cons rfl (fun K hK => ?_) AllReady.nil
                    go_simp
                    refine (rsend_any M22x.out (by have := h50.out; omega) (RowL.below RW.out M22x.out.bel)).mono ?_
                    rintro e w24a ⟨v24a, rfl, hN, hC, hS⟩
                    have pr := pairR N22x.out P22x.out hN hC hS
                    have N24x := Aside0.mk pr.1
                    have M24x := Aside0.mk hN
                    have P24x := Aside0.mk pr.2
                    clear hN hC hS pr
                    (try go_simp)
                    refine hK _ _ ?_
                    clear hK K
                    refine wpAny_take (i := 10) (v := ?_) rfl (by kernel_rfl) (by kernel_rfl) (by kernel_rfl) (fun _ _ _ h => h) (Or.inl ⟨by kernel_rfl, ?_⟩) ?_
                    rotate_left
                    · intro w; go_simp; try (with_reducible rfl)
                    rotate_left
                    refine wpAny_done (by kernel_rfl) ?_ _
                    go_wp2
                    go_meet
                    exact ⟨g, sent rm zs ys, _, _, rfl, N24x, M24x, P24x⟩
                  · go_simp
                    (try go_simp)
                    refine hK _ _ ?_
                    clear hK K
                    refine wpAny_ready (rs := [5]) (by kernel_rfl) (by simp) ?_
                    refine AllReady.cons rfl (fun K hK => ?_) AllReady.nil
                    go_simp
                    refine (send_any (N5.out.below BB21.out) hy RR21.out).mono ?_
                    rintro e w26a ⟨v26a, rfl, hN, hC, hS⟩
                    have pr := pairL (M5.out.below BB21.out) PP.out hN hC hS
                    have bs := beside hC hS (blk_below X5.out BB21.out) NE.out VE.out
                    have N26x := Aside0.mk hN
                    have M26x := Aside0.mk pr.1
                    have P26x := Aside0.mk pr.2
                    have cc26 : w26a.cell? ⟨bx, 2, none⟩ = some (.slice B ys.length c2) := (blk_cell bs.1 2).trans rfl
                    clear hN hC hS pr bs
                    (try go_simp)
                    refine hK _ _ ?_
                    clear hK K
                    refine wpAny_ready (rs := [9]) (by kernel_rfl) (by simp) ?_
                    refine AllReady.cons rfl (fun K hK => ?_) AllReady.nil
                    go_simp
                    refine (rsend_any M26x.out (by have := h50.out; omega) (RowL.below RW.out M26x.out.bel)).mono ?_
                    rintro e w27a ⟨v27a, rfl, hN, hC, hS⟩
                    have pr := pairR N26x.out P26x.out hN hC hS
                    have N27x := Aside0.mk pr.1
                    have M27x := Aside0.mk hN
                    have P27x := Aside0.mk pr.2
                    clear hN hC hS pr
                    (try go_simp)
                    refine hK _ _ ?_
                    clear hK K
                    refine wpAny_take (i := 10) (v := ?_) rfl (by kernel_rfl) (by kernel_rfl) (by kernel_rfl) (fun _ _ _ h => h) (Or.inl ⟨by kernel_rfl, ?_⟩) ?_
                    rotate_left
                    · intro w; go_simp; try (with_reducible rfl)
                    rotate_left
                    refine wpAny_done (by kernel_rfl) ?_ _
                    go_wp2
                    go_meet
                    exact ⟨g, sent rm zs ys, _, _, rfl, N27x, M27x, P27x⟩
                · go_simp
                  (try go_simp)
                  refine hK _ _ ?_
                  clear hK K
                  refine wpAny_ready (rs := [4]) (by kernel_rfl) (by simp) ?_
                  refine AllReady.cons rfl (fun K hK => ?_) AllReady.nil
                  refine step_app2 (ys := ys) rfl _ _ rfl rfl rfl rfl OO20.out (RowL.below RW.out (N5.out.below BB20.out).bel) (by have := h50.out; simp; omega) BB20.out.size ?_
                  intro v1 w29a hO1 hg1 hs1
                  obtain ⟨A29, k29, rfl, hr29, -, -⟩ := OwnL.row hO1
                  have RR29 := Aside0.mk (show RowL w29a A29 ys from hr29)
                  have BB29 := Aside0.mk (show Below w5.heap.size w5 w29a from BB20.out.grown hg1 BB20.out.size (fun k hk => (OwnL.lt OO20.out k hk).1))
                  have cc29 : w29a.cell? ⟨bx, 2, none⟩ = some (.slice B ys.length c2) := (blk_cell (blk_below X5.out BB29.out) 2).trans rfl
                  clear hO1 hg1 hs1 hr29
                  simp only [List.nil_append]
                  (try go_simp)
                  refine hK _ _ ?_
                  clear hK K
                  refine wpAny_ready (rs := [5]) (by kernel_rfl) (by simp) ?_
                  refine AllReady.cons rfl (fun K hK => ?_) AllReady.nil
                  go_simp
                  refine (send_any (N5.out.below BB29.out) hy RR29.out).mono ?_
                  rintro e w30a ⟨v30a, rfl, hN, hC, hS⟩
                  have pr := pairL (M5.out.below BB29.out) PP.out hN hC hS
                  have bs := beside hC hS (blk_below X5.out BB29.out) NE.out VE.out
                  have N30x := Aside0.mk hN
                  have M30x := Aside0.mk pr.1
                  have P30x := Aside0.mk pr.2
                  have cc30 : w30a.cell? ⟨bx, 2, none⟩ = some (.slice B ys.length c2) := (blk_cell bs.1 2).trans rfl
                  clear hN hC hS pr bs
                  (try go_simp)
                  refine hK _ _ ?_
                  clear hK K
                  refine wpAny_ready (rs := [9]) (by kernel_rfl) (by simp) ?_
                  refine AllReady.cons rfl (fun K hK => ?_) AllReady.nil
                  go_simp
                  refine (rsend_any M30x.out (by have := h50.out; omega) (RowL.below RW.out M30x.out.bel)).mono ?_
                  rintro e w31a ⟨v31a, rfl, hN, hC, hS⟩
                  have pr := pairR N30x.out P30x.out hN hC hS
                  have N31x := Aside0.mk pr.1
                  have M31x := Aside0.mk hN
                  have P31x := Aside0.mk pr.2
                  clear hN hC hS pr
                  (try go_simp)
                  refine hK _ _ ?_
                  clear hK K
                  refine wpAny_take (i := 10) (v := ?_) rfl (by kernel_rfl) (by kernel_rfl) (by kernel_rfl) (fun _ _ _ h => h) (Or.inl ⟨by kernel_rfl, ?_⟩) ?_
                  rotate_left
                  · intro w; go_simp; try (with_reducible rfl)
                  rotate_left
                  refine wpAny_done (by kernel_rfl) ?_ _
                  go_wp2
                  go_meet
                  exact ⟨g, sent rm zs ys, _, _, rfl, N31x, M31x, P31x⟩
              · go_simp
                (try go_simp)
                refine hK _ _ ?_
                clear hK K
                refine wpAny_ready (rs := [1]) (by kernel_rfl) (by simp) ?_
                refine AllReady.cons rfl (fun K hK => ?_) AllReady.nil
                go_simp
                (try go_simp)
                refine hK _ _ ?_
                clear hK K
                have OO33 := Aside0.mk (show OwnL w5.heap.size (.slice (some ⟨w5.heap.size, 0, none⟩) 0 0) [] (w5.alloc (.cells #[] 36)) from World.ownsRow_made w5 #[] 0 (BB0.out.size) (Nat.zero_le _) rfl)
                have BB33 := Aside0.mk (show Below w5.heap.size w5 (w5.alloc (.cells #[] 36)) from below_alloc BB0.out (.cells #[] 36))
                have cc33 : (w5.alloc (.cells #[] 36)).cell? ⟨bx, 2, none⟩ = some (.slice B ys.length c2) := (blk_cell (blk_below X5.out BB33.out) 2).trans rfl
                refine wpAny_ready (rs := [4]) (by kernel_rfl) (by simp) ?_
                refine AllReady.cons rfl (fun K hK => ?_) AllReady.nil
                refine step_app2 (ys := ys) rfl _ _ rfl rfl rfl rfl OO33.out (RowL.below RW.out (N5.out.below BB33.out).bel) (by have := h50.out; simp; omega) BB33.out.size ?_
                intro v1 w34a hO1 hg1 hs1
                obtain ⟨A34, k34, rfl, hr34, -, -⟩ := OwnL.row hO1
                have RR34 := Aside0.mk (show RowL w34a A34 ys from hr34)
                have BB34 := Aside0.mk (show Below w5.heap.size w5 w34a from BB33.out.grown hg1 BB33.out.size (fun k hk => (OwnL.lt OO33.out k hk).1))
                have cc34 : w34a.cell? ⟨bx, 2, none⟩ = some (.slice B ys.length c2) := (blk_cell (blk_below X5.out BB34.out) 2).trans rfl
                clear hO1 hg1 hs1 hr34
                simp only [List.nil_append]
                (try go_simp)
                refine hK _ _ ?_
                clear hK K
                refine wpAny_ready (rs := [5]) (by kernel_rfl) (by simp) ?_
                refine AllReady.cons rfl (fun K hK => ?_) AllReady.nil
                go_simp
                refine (send_any (N5.out.below BB34.out) hy RR34.out).mono ?_
                rintro e w35a ⟨v35a, rfl, hN, hC, hS⟩
                have pr := pairL (M5.out.below BB34.out) PP.out hN hC hS
                have bs := beside hC hS (blk_below X5.out BB34.out) NE.out VE.out
                have N35x := Aside0.mk hN
                have M35x := Aside0.mk pr.1
                have P35x := Aside0.mk pr.2
                have cc35 : w35a.cell? ⟨bx, 2, none⟩ = some (.slice B ys.length c2) := (blk_cell bs.1 2).trans rfl
                clear hN hC hS pr bs
                (try go_simp)
                refine hK _ _ ?_
                clear hK K
                refine wpAny_ready (rs := [9]) (by kernel_rfl) (by simp) ?_
                refine AllReady.cons rfl (fun K hK => ?_) AllReady.nil
                go_simp
                refine (rsend_any M35x.out (by have := h50.out; omega) (RowL.below RW.out M35x.out.bel)).mono ?_
                rintro e w36a ⟨v36a, rfl, hN, hC, hS⟩
                have pr := pairR N35x.out P35x.out hN hC hS
                have N36x := Aside0.mk pr.1
                have M36x := Aside0.mk hN
                have P36x := Aside0.mk pr.2
                clear hN hC hS pr
                (try go_simp)
                refine hK _ _ ?_
                clear hK K
                refine wpAny_take (i := 10) (v := ?_) rfl (by kernel_rfl) (by kernel_rfl) (by kernel_rfl) (fun _ _ _ h => h) (Or.inl ⟨by kernel_rfl, ?_⟩) ?_
                rotate_left
                · intro w; go_simp; try (with_reducible rfl)
                rotate_left
                refine wpAny_done (by kernel_rfl) ?_ _
                go_wp2
                go_meet
                exact ⟨g, sent rm zs ys, _, _, rfl, N36x, M36x, P36x⟩
            · go_simp
              (try go_simp)
              refine hK _ _ ?_
              clear hK K
              refine wpAny_ready (rs := [1, 3]) (by kernel_rfl) (by simp) ?_
              refine AllReady.cons rfl (fun K hK => ?_) (AllReady.cons rfl (fun K hK => ?_) AllReady.nil)
              · go_simp
                (try go_simp)
                refine hK _ _ ?_
                clear hK K
                have OO38 := Aside0.mk (show OwnL w5.heap.size (.slice (some ⟨w5.heap.size, 0, none⟩) 0 0) [] (w5.alloc (.cells #[] 36)) from World.ownsRow_made w5 #[] 0 (BB0.out.size) (Nat.zero_le _) rfl)
                have BB38 := Aside0.mk (show Below w5.heap.size w5 (w5.alloc (.cells #[] 36)) from below_alloc BB0.out (.cells #[] 36))
                have cc38 : (w5.alloc (.cells #[] 36)).cell? ⟨bx, 2, none⟩ = some (.slice B ys.length c2) := (blk_cell (blk_below X5.out BB38.out) 2).trans rfl
                refine wpAny_ready (rs := [3]) (by kernel_rfl) (by simp) ?_
                refine AllReady.cons rfl (fun K hK => ?_) AllReady.nil
                go_simp
                (try go_simp)
                refine hK _ _ ?_
                clear hK K
                refine wpAny_ready (rs := [4]) (by kernel_rfl) (by simp) ?_
                refine AllReady.cons rfl (fun K hK => ?_) AllReady.nil
                refine step_app2 (ys := ys) rfl _ _ rfl rfl rfl rfl OO38.out (RowL.below RW.out (N5.out.below BB38.out).bel) (by have := h50.out; simp; omega) BB38.out.size ?_
                intro v1 w40a hO1 hg1 hs1
                obtain ⟨A40, k40, rfl, hr40, -, -⟩ := OwnL.row hO1
                have RR40 := Aside0.mk (show RowL w40a A40 ys from hr40)
                have BB40 := Aside0.mk (show Below w5.heap.size w5 w40a from BB38.out.grown hg1 BB38.out.size (fun k hk => (OwnL.lt OO38.out k hk).1))
                have cc40 : w40a.cell? ⟨bx, 2, none⟩ = some (.slice B ys.length c2) := (blk_cell (blk_below X5.out BB40.out) 2).trans rfl
                clear hO1 hg1 hs1 hr40
                simp only [List.nil_append]
                (try go_simp)
                refine hK _ _ ?_
                clear hK K
                refine wpAny_ready (rs := [5]) (by kernel_rfl) (by simp) ?_
                refine AllReady.cons rfl (fun K hK => ?_) AllReady.nil
                go_simp
                refine (send_any (N5.out.below BB40.out) hy RR40.out).mono ?_
                rintro e w41a ⟨v41a, rfl, hN, hC, hS⟩
                have pr := pairL (M5.out.below BB40.out) PP.out hN hC hS
                have bs := beside hC hS (blk_below X5.out BB40.out) NE.out VE.out
                have N41x := Aside0.mk hN
                have M41x := Aside0.mk pr.1
                have P41x := Aside0.mk pr.2
                have cc41 : w41a.cell? ⟨bx, 2, none⟩ = some (.slice B ys.length c2) := (blk_cell bs.1 2).trans rfl
                clear hN hC hS pr bs
                (try go_simp)
                refine hK _ _ ?_
                clear hK K
                refine wpAny_ready (rs := [9]) (by kernel_rfl) (by simp) ?_
                refine AllReady.cons rfl (fun K hK => ?_) AllReady.nil
                go_simp
                refine (rsend_any M41x.out (by have := h50.out; omega) (RowL.below RW.out M41x.out.bel)).mono ?_
                rintro e w42a ⟨v42a, rfl, hN, hC, hS⟩
                have pr := pairR N41x.out P41x.out hN hC hS
                have N42x := Aside0.mk pr.1
                have M42x := Aside0.mk hN
                have P42x := Aside0.mk pr.2
                clear hN hC hS pr
                (try go_simp)
                refine hK _ _ ?_
                clear hK K
                refine wpAny_take (i := 10) (v := ?_) rfl (by kernel_rfl) (by kernel_rfl) (by kernel_rfl) (fun _ _ _ h => h) (Or.inl ⟨by kernel_rfl, ?_⟩) ?_
                rotate_left
                · intro w; go_simp; try (with_reducible rfl)
                rotate_left
                refine wpAny_done (by kernel_rfl) ?_ _
                go_wp2
                go_meet
                exact ⟨g, sent rm zs ys, _, _, rfl, N42x, M42x, P42x⟩
              · go_simp
                (try go_simp)
                refine hK _ _ ?_
                clear hK K
                refine wpAny_ready (rs := [1]) (by kernel_rfl) (by simp) ?_
                refine AllReady.cons rfl (fun K hK => ?_) AllReady.nil
                go_simp
                (try go_simp)
                refine hK _ _ ?_
                clear hK K
                have OO44 := Aside0.mk (show OwnL w5.heap.size (.slice (some ⟨w5.heap.size, 0, none⟩) 0 0) [] (w5.alloc (.cells #[] 36)) from World.ownsRow_made w5 #[] 0 (BB0.out.size) (Nat.zero_le _) rfl)
                have BB44 := Aside0.mk (show Below w5.heap.size w5 (w5.alloc (.cells #[] 36)) from below_alloc BB0.out (.cells #[] 36))
                have cc44 : (w5.alloc (.cells #[] 36)).cell? ⟨bx, 2, none⟩ = some (.slice B ys.length c2) := (blk_cell (blk_below X5.out BB44.out) 2).trans rfl
                refine wpAny_ready (rs := [4]) (by kernel_rfl) (by simp) ?_
                refine AllReady.cons rfl (fun K hK => ?_) AllReady.nil
                refine step_app2 (ys := ys) rfl _ _ rfl rfl rfl rfl OO44.out (RowL.below RW.out (N5.out.below BB44.out).bel) (by have := h50.out; simp; omega) BB44.out.size ?_
                intro v1 w45a hO1 hg1 hs1
                obtain ⟨A45, k45, rfl, hr45, -, -⟩ := OwnL.row hO1
                have RR45 := Aside0.mk (show RowL w45a A45 ys from hr45)
                have BB45 := Aside0.mk (show Below w5.heap.size w5 w45a from BB44.out.grown hg1 BB44.out.size (fun k hk => (OwnL.lt OO44.out k hk).1))
                have cc45 : w45a.cell? ⟨bx, 2, none⟩ = some (.slice B ys.length c2) := (blk_cell (blk_below X5.out BB45.out) 2).trans rfl
                clear hO1 hg1 hs1 hr45
                simp only [List.nil_append]
                (try go_simp)
                refine hK _ _ ?_
                clear hK K
                refine wpAny_ready (rs := [5]) (by kernel_rfl) (by simp) ?_
                refine AllReady.cons rfl (fun K hK => ?_) AllReady.nil
                go_simp
                refine (send_any (N5.out.below BB45.out) hy RR45.out).mono ?_
                rintro e w46a ⟨v46a, rfl, hN, hC, hS⟩
                have pr := pairL (M5.out.below BB45.out) PP.out hN hC hS
                have bs := beside hC hS (blk_below X5.out BB45.out) NE.out VE.out
                have N46x := Aside0.mk hN
                have M46x := Aside0.mk pr.1
                have P46x := Aside0.mk pr.2
                have cc46 : w46a.cell? ⟨bx, 2, none⟩ = some (.slice B ys.length c2) := (blk_cell bs.1 2).trans rfl
                clear hN hC hS pr bs
                (try go_simp)
                refine hK _ _ ?_
                clear hK K
                refine wpAny_ready (rs := [9]) (by kernel_rfl) (by simp) ?_
                refine AllReady.cons rfl (fun K hK => ?_) AllReady.nil
                go_simp
                refine (rsend_any M46x.out (by have := h50.out; omega) (RowL.below RW.out M46x.out.bel)).mono ?_
                rintro e w47a ⟨v47a, rfl, hN, hC, hS⟩
                have pr := pairR N46x.out P46x.out hN hC hS
                have N47x := Aside0.mk pr.1
                have M47x := Aside0.mk hN
                have P47x := Aside0.mk pr.2
                clear hN hC hS pr
                (try go_simp)
                refine hK _ _ ?_
                clear hK K
                refine wpAny_take (i := 10) (v := ?_) rfl (by kernel_rfl) (by kernel_rfl) (by kernel_rfl) (fun _ _ _ h => h) (Or.inl ⟨by kernel_rfl, ?_⟩) ?_
                rotate_left
                · intro w; go_simp; try (with_reducible rfl)
                rotate_left
                refine wpAny_done (by kernel_rfl) ?_ _
                go_wp2
                go_meet
                exact ⟨g, sent rm zs ys, _, _, rfl, N47x, M47x, P47x⟩
          · have k1 : (kd == 1) = false := beq_eq_false_iff_ne.2 h1
            by_cases h2 : kd = 2
            · have k2 : (kd == 2) = true := beq_iff_eq.2 h2
              clear h1 h2
              go_wp2_with fail
              generalize wz.alloc (.cells #[.int .i64 kd, .int .i64 p, .slice B ys.length c2] 29) = w4 at *
              generalize wz.heap.size = bx at *
              refine (take_any p N4.out).mono ?_
              rintro e w5 ⟨v5, rfl, hN, hC, hS⟩
              have pr := pairL M4.out PP.out hN hC hS
              have bs := beside hC hS X4.out NE.out VE.out
              have N5 := Aside0.mk hN
              have M5 := Aside0.mk pr.1
              have P5 := Aside0.mk pr.2
              have X5 := Aside0.mk bs.1
              have x1 : w5.cell? ⟨bx, 1, none⟩ = some (.int .i64 p) := (blk_cell bs.1 1).trans rfl
              clear hN hC hS pr bs N4 M4 X4
              have GL := Aside0.mk (Eq.refl (got zs p))
              obtain ⟨l1, hl1⟩ : ∃ l : LetR, l = got zs p := ⟨_, rfl⟩
              rw [← hl1]
              obtain ⟨k1, f1, t1, b1, s1, wh1, wr1, cn1, o1, h1, d1⟩ := l1
              have HL := Aside0.mk hl1
              clear hl1 GL
              simp only [letV, letCells]
              go_wp2_with fail
              refine (rtake_any p (M5.out.below (below_alloc (Below.refl _ w5) (.cells #[.int .i64 k1, .int .i64 f1, .int .i64 t1, .int .i64 b1, .int .i64 s1, .int .i64 wh1, .bool wr1, .int .i64 cn1, .bool o1, .bool h1, .int .i64 d1] 36)))).mono ?_
              rintro e w6 ⟨v6, rfl, hN, hC, hS⟩
              have pr := pairR (N5.out.below (below_alloc (Below.refl _ w5) (.cells #[.int .i64 k1, .int .i64 f1, .int .i64 t1, .int .i64 b1, .int .i64 s1, .int .i64 wh1, .bool wr1, .int .i64 cn1, .bool o1, .bool h1, .int .i64 d1] 36))) P5.out hN hC hS
              have N6 := Aside0.mk (pr.1.below (below_alloc (Below.refl _ w6) (.cells #[.int .i64 k1, .int .i64 f1, .int .i64 t1, .int .i64 b1, .int .i64 s1, .int .i64 wh1, .bool wr1, .int .i64 cn1, .bool o1, .bool h1, .int .i64 d1] 36)))
              have M6 := Aside0.mk (hN.below (below_alloc (Below.refl _ w6) (.cells #[.int .i64 k1, .int .i64 f1, .int .i64 t1, .int .i64 b1, .int .i64 s1, .int .i64 wh1, .bool wr1, .int .i64 cn1, .bool o1, .bool h1, .int .i64 d1] 36)))
              have P6 := Aside0.mk pr.2
              have Y6 := Aside0.mk (beside hC hS (blk_new w5 (.cells #[.int .i64 k1, .int .i64 f1, .int .i64 t1, .int .i64 b1, .int .i64 s1, .int .i64 wh1, .bool wr1, .int .i64 cn1, .bool o1, .bool h1, .int .i64 d1] 36)) (show w5.heap.size ≠ q by have := M5.out.lt; omega) (by intro e; have := (OwnL.lt M5.out.own _ e).2; omega)).1
              clear hN hC hS pr
              rw [← HL.out]
              simp only [letV, letCells]
              generalize w5.heap.size = by5 at *
              have y0 : w6.cell? ⟨by5, 0, none⟩ = some (.int .i64 k1) := (blk_cell Y6.out 0).trans rfl
              have y1 : w6.cell? ⟨by5, 1, none⟩ = some (.int .i64 f1) := (blk_cell Y6.out 1).trans rfl
              have y2 : w6.cell? ⟨by5, 2, none⟩ = some (.int .i64 t1) := (blk_cell Y6.out 2).trans rfl
              have y3 : w6.cell? ⟨by5, 3, none⟩ = some (.int .i64 b1) := (blk_cell Y6.out 3).trans rfl
              have y4 : w6.cell? ⟨by5, 4, none⟩ = some (.int .i64 s1) := (blk_cell Y6.out 4).trans rfl
              have y5 : w6.cell? ⟨by5, 5, none⟩ = some (.int .i64 wh1) := (blk_cell Y6.out 5).trans rfl
              have y6 : w6.cell? ⟨by5, 6, none⟩ = some (.bool wr1) := (blk_cell Y6.out 6).trans rfl
              have y7 : w6.cell? ⟨by5, 7, none⟩ = some (.int .i64 cn1) := (blk_cell Y6.out 7).trans rfl
              have y8 : w6.cell? ⟨by5, 8, none⟩ = some (.bool o1) := (blk_cell Y6.out 8).trans rfl
              have y9 : w6.cell? ⟨by5, 9, none⟩ = some (.bool h1) := (blk_cell Y6.out 9).trans rfl
              have y10 : w6.cell? ⟨by5, 10, none⟩ = some (.int .i64 d1) := (blk_cell Y6.out 10).trans rfl
              go_wp2
              go_meet
              exact ⟨g, taken zs p, v5, v6, rfl, N6, M6, P6⟩
            · have k2 : (kd == 2) = false := beq_eq_false_iff_ne.2 h2
              by_cases h3 : kd = 3
              · have k3 : (kd == 3) = true := beq_iff_eq.2 h3
                clear h1 h2 h3
                go_wp2_with fail
                generalize wz.alloc (.cells #[.int .i64 kd, .int .i64 p, .slice B ys.length c2] 29) = w4 at *
                generalize wz.heap.size = bx at *
                refine wp_region_any (by kernel_rfl) ?_
                (try (change wpAny _ _ _ _ _ _ _ (World.drew _)))
                generalize hw5 : World.drew _ = w5
                have N5 := Aside0.mk (show NetAt 80 rm zs v g w w5 from by rw [← hw5]; exact N4.out.below (Below.drew (Below.refl _ _)))
                have M5 := Aside0.mk (show NetAt 47 rm zs v' q w w5 from by rw [← hw5]; exact M4.out.below (Below.drew (Below.refl _ _)))
                have X5 := Aside0.mk (show w5.heap[bx]? = some (.cells #[.int .i64 kd, .int .i64 p, .slice B ys.length c2] 29 (0, 0)) from by rw [← hw5]; exact blk_drew X4.out)
                clear hw5 N4 M4 X4
                have BB0 := Aside0.mk (Below.refl w5.heap.size w5)
                have cc0 : w5.cell? ⟨bx, 1, none⟩ = some (.int .i64 p) := (blk_cell X5.out 1).trans rfl
                refine wpAny_take (i := 0) (v := ?_) rfl (by kernel_rfl) (by kernel_rfl) (by kernel_rfl) (fun _ _ _ h => h) (Or.inl ⟨by kernel_rfl, ?_⟩) ?_
                rotate_left
                · intro w; go_simp; try (with_reducible rfl)
                rotate_left
                refine wpAny_take (i := 1) (v := ?_) rfl (by kernel_rfl) (by kernel_rfl) (by kernel_rfl) (fun _ _ _ h => h) (Or.inl ⟨by kernel_rfl, ?_⟩) ?_
                rotate_left
                · intro w; go_simp; try (with_reducible rfl)
                rotate_left
                refine wpAny_take (i := 4) (v := ?_) rfl (by kernel_rfl) (by kernel_rfl) (by kernel_rfl) (fun _ _ _ h => h) (Or.inl ⟨by kernel_rfl, ?_⟩) ?_
                rotate_left
                · intro w; go_simp; try (with_reducible rfl)
                rotate_left
                refine wpAny_take (i := 5) (v := ?_) rfl (by kernel_rfl) (by kernel_rfl) (by kernel_rfl) (fun _ _ _ h => h) (Or.inl ⟨by kernel_rfl, ?_⟩) ?_
                rotate_left
                · intro w; go_simp; try (with_reducible rfl)
                rotate_left
                refine wpAny_ready (rs := [2, 6]) (by kernel_rfl) (by simp) ?_
                refine AllReady.cons rfl (fun K hK => ?_) (AllReady.cons rfl (fun K hK => ?_) AllReady.nil)
                · go_simp
                  (try go_simp)
                  refine hK _ _ ?_
                  clear hK K
                  refine wpAny_ready (rs := [3, 6]) (by kernel_rfl) (by simp) ?_
                  refine AllReady.cons rfl (fun K hK => ?_) (AllReady.cons rfl (fun K hK => ?_) AllReady.nil)
                  · go_simp
                    refine (drop_any p N5.out).mono ?_
                    rintro e w2a ⟨v2a, rfl, hN, hC, hS⟩
                    have pr := pairL M5.out PP.out hN hC hS
                    have bs := beside hC hS X5.out NE.out VE.out
                    have N2x := Aside0.mk hN
                    have M2x := Aside0.mk pr.1
                    have P2x := Aside0.mk pr.2
                    have cc2 : w2a.cell? ⟨bx, 1, none⟩ = some (.int .i64 p) := (blk_cell bs.1 1).trans rfl
                    clear hN hC hS pr bs
                    (try go_simp)
                    refine hK _ _ ?_
                    clear hK K
                    refine wpAny_ready (rs := [6]) (by kernel_rfl) (by simp) ?_
                    refine AllReady.cons rfl (fun K hK => ?_) AllReady.nil
                    go_simp
                    (try go_simp)
                    refine hK _ _ ?_
                    clear hK K
                    refine wpAny_ready (rs := [7]) (by kernel_rfl) (by simp) ?_
                    refine AllReady.cons rfl (fun K hK => ?_) AllReady.nil
                    go_simp
                    refine (rdrop_any p M2x.out).mono ?_
                    rintro e w4a ⟨v4a, rfl, hN, hC, hS⟩
                    have pr := pairR N2x.out P2x.out hN hC hS
                    have N4x := Aside0.mk pr.1
                    have M4x := Aside0.mk hN
                    have P4x := Aside0.mk pr.2
                    clear hN hC hS pr
                    (try go_simp)
                    refine hK _ _ ?_
                    clear hK K
                    refine wpAny_take (i := 8) (v := ?_) rfl (by kernel_rfl) (by kernel_rfl) (by kernel_rfl) (fun _ _ _ h => h) (Or.inl ⟨by kernel_rfl, ?_⟩) ?_
                    rotate_left
                    · intro w; go_simp; try (with_reducible rfl)
                    rotate_left
                    refine wpAny_done (by kernel_rfl) ?_ _
                    go_wp2
                    go_meet
                    exact ⟨g, dropped zs p, _, _, rfl, N4x, M4x, P4x⟩
                  · go_simp
                    (try go_simp)
                    refine hK _ _ ?_
                    clear hK K
                    refine wpAny_ready (rs := [3]) (by kernel_rfl) (by simp) ?_
                    refine AllReady.cons rfl (fun K hK => ?_) AllReady.nil
                    go_simp
                    refine (drop_any p N5.out).mono ?_
                    rintro e w6a ⟨v6a, rfl, hN, hC, hS⟩
                    have pr := pairL M5.out PP.out hN hC hS
                    have bs := beside hC hS X5.out NE.out VE.out
                    have N6x := Aside0.mk hN
                    have M6x := Aside0.mk pr.1
                    have P6x := Aside0.mk pr.2
                    have cc6 : w6a.cell? ⟨bx, 1, none⟩ = some (.int .i64 p) := (blk_cell bs.1 1).trans rfl
                    clear hN hC hS pr bs
                    (try go_simp)
                    refine hK _ _ ?_
                    clear hK K
                    refine wpAny_ready (rs := [7]) (by kernel_rfl) (by simp) ?_
                    refine AllReady.cons rfl (fun K hK => ?_) AllReady.nil
                    go_simp
                    refine (rdrop_any p M6x.out).mono ?_
                    rintro e w7a ⟨v7a, rfl, hN, hC, hS⟩
                    have pr := pairR N6x.out P6x.out hN hC hS
                    have N7x := Aside0.mk pr.1
                    have M7x := Aside0.mk hN
                    have P7x := Aside0.mk pr.2
                    clear hN hC hS pr
                    (try go_simp)
                    refine hK _ _ ?_
                    clear hK K
                    refine wpAny_take (i := 8) (v := ?_) rfl (by kernel_rfl) (by kernel_rfl) (by kernel_rfl) (fun _ _ _ h => h) (Or.inl ⟨by kernel_rfl, ?_⟩) ?_
                    rotate_left
                    · intro w; go_simp; try (with_reducible rfl)
                    rotate_left
                    refine wpAny_done (by kernel_rfl) ?_ _
                    go_wp2
                    go_meet
                    exact ⟨g, dropped zs p, _, _, rfl, N7x, M7x, P7x⟩
                · go_simp
                  (try go_simp)
                  refine hK _ _ ?_
                  clear hK K
                  refine wpAny_ready (rs := [2]) (by kernel_rfl) (by simp) ?_
                  refine AllReady.cons rfl (fun K hK => ?_) AllReady.nil
                  go_simp
                  (try go_simp)
                  refine hK _ _ ?_
                  clear hK K
                  refine wpAny_ready (rs := [3]) (by kernel_rfl) (by simp) ?_
                  refine AllReady.cons rfl (fun K hK => ?_) AllReady.nil
                  go_simp
                  refine (drop_any p N5.out).mono ?_
                  rintro e w10a ⟨v10a, rfl, hN, hC, hS⟩
                  have pr := pairL M5.out PP.out hN hC hS
                  have bs := beside hC hS X5.out NE.out VE.out
                  have N10x := Aside0.mk hN
                  have M10x := Aside0.mk pr.1
                  have P10x := Aside0.mk pr.2
                  have cc10 : w10a.cell? ⟨bx, 1, none⟩ = some (.int .i64 p) := (blk_cell bs.1 1).trans rfl
                  clear hN hC hS pr bs
                  (try go_simp)
                  refine hK _ _ ?_
                  clear hK K
                  refine wpAny_ready (rs := [7]) (by kernel_rfl) (by simp) ?_
                  refine AllReady.cons rfl (fun K hK => ?_) AllReady.nil
                  go_simp
                  refine (rdrop_any p M10x.out).mono ?_
                  rintro e w11a ⟨v11a, rfl, hN, hC, hS⟩
                  have pr := pairR N10x.out P10x.out hN hC hS
                  have N11x := Aside0.mk pr.1
                  have M11x := Aside0.mk hN
                  have P11x := Aside0.mk pr.2
                  clear hN hC hS pr
                  (try go_simp)
                  refine hK _ _ ?_
                  clear hK K
                  refine wpAny_take (i := 8) (v := ?_) rfl (by kernel_rfl) (by kernel_rfl) (by kernel_rfl) (fun _ _ _ h => h) (Or.inl ⟨by kernel_rfl, ?_⟩) ?_
                  rotate_left
                  · intro w; go_simp; try (with_reducible rfl)
                  rotate_left
                  refine wpAny_done (by kernel_rfl) ?_ _
                  go_wp2
                  go_meet
                  exact ⟨g, dropped zs p, _, _, rfl, N11x, M11x, P11x⟩
              · have k3 : (kd == 3) = false := beq_eq_false_iff_ne.2 h3
                by_cases h4 : kd = 4
                · have k4 : (kd == 4) = true := beq_iff_eq.2 h4
                  clear h1 h2 h3 h4
                  go_wp2_with fail
                  generalize wz.alloc (.cells #[.int .i64 kd, .int .i64 p, .slice B ys.length c2] 29) = w4 at *
                  refine (copy_any N4.out).mono ?_
                  rintro e w5 ⟨gc, u, rfl, hN, hb, hgc, hfr⟩
                  have N5 := Aside0.mk (N4.out.below hb)
                  have M5 := Aside0.mk (M4.out.below hb)
                  have C5 := Aside0.mk hN
                  have AN := Aside0.mk (Apt.fresh N4.out hgc hfr)
                  have AM := Aside0.mk (Apt.fresh M4.out hgc hfr)
                  clear hN hb hgc hfr N4 M4 X4
                  go_wp2_with fail
                  refine (take_any 0 C5.out).mono ?_
                  rintro e w6 ⟨u6, rfl, hN, hC, hS⟩
                  have N6 := Aside0.mk (N5.out.frame hC AN.out hN.bel)
                  have M6 := Aside0.mk (M5.out.frame hC AM.out hN.bel)
                  clear hN hC hS C5 AN AM N5 M5
                  go_wp2_with fail
                  refine (copy_any N6.out).mono ?_
                  rintro e w7 ⟨gd, u7, rfl, hN, hb, hgc, hfr⟩
                  have N7 := Aside0.mk hN
                  have M7 := Aside0.mk (M6.out.below hb)
                  have P7 := Aside0.mk (Apt.fresh M6.out hgc hfr).symm
                  clear hN hb hgc hfr N6 M6
                  go_wp2
                  go_meet
                  exact ⟨gd, zs, u7, v', rfl, N7, M7, P7⟩
                · have k4 : (kd == 4) = false := beq_eq_false_iff_ne.2 h4
                  clear h1 h2 h3 h4
                  go_wp2
                  go_meet
                  exact ⟨g, zs, v, v', rfl, N4, M4, PP⟩
        case rest =>
          obtain ⟨g2, zs2, v2, v2', rfl, N6, M6, P6⟩ := hcut
          obtain ⟨A6, k6, rfl, hr6, -, -⟩ := OwnL.row M6.out.own
          have R6 := Aside0.mk hr6
          clear hr6 N4 M4 X4 NE VE NQ VQ
          have c6 : wc.cell? ⟨q, 1, none⟩ = some (.slice A6 zs2.length k6) := (blk_cell M6.out.blk 1).trans rfl
          go_wp2_with fail
          refine wp_region_any (by kernel_rfl) ?_
          (try (change wpAny _ _ _ _ _ _ _ (World.drew _)))
          generalize hw8 : World.drew _ = w8
          have N8 := Aside0.mk (show NetAt 80 rm zs2 v2 g2 w w8 from by rw [← hw8]; exact N6.out.below (Below.drew (Below.refl _ _)))
          have M8 := Aside0.mk (show NetAt 47 rm zs2 (.slice A6 zs2.length k6) q w w8 from by rw [← hw8]; exact M6.out.below (Below.drew (Below.refl _ _)))
          have R8 := Aside0.mk (show RowL w8 A6 zs2 from by rw [← hw8]; exact RowL.below R6.out (Below.drew (Below.refl _ _)))
          clear hw8 c6 N6 M6 R6
          have cc0 : w8.cell? ⟨q, 1, none⟩ = some (.slice A6 zs2.length k6) := (blk_cell M8.out.blk 1).trans rfl
          refine wpAny_take (i := 0) (v := ?_) rfl (by kernel_rfl) (by kernel_rfl) (by kernel_rfl) (fun _ _ _ h => h) (Or.inl ⟨by kernel_rfl, ?_⟩) ?_
          rotate_left
          · intro w; go_simp; try (with_reducible rfl)
          rotate_left
          refine wpAny_take (i := 2) (v := ?_) rfl (by kernel_rfl) (by kernel_rfl) (by kernel_rfl) (fun _ _ _ h => h) (Or.inl ⟨by kernel_rfl, ?_⟩) ?_
          rotate_left
          · intro w; go_simp; try (with_reducible rfl)
          rotate_left
          refine wpAny_take (i := 3) (v := ?_) rfl (by kernel_rfl) (by kernel_rfl) (by kernel_rfl) (fun _ _ _ h => h) (Or.inl ⟨by kernel_rfl, ?_⟩) ?_
          rotate_left
          · intro w; go_simp; try (with_reducible rfl)
          rotate_left
          refine wpAny_take (i := 4) (v := ?_) rfl (by kernel_rfl) (by kernel_rfl) (by kernel_rfl) (fun _ _ _ h => h) (Or.inl ⟨by kernel_rfl, ?_⟩) ?_
          rotate_left
          · intro w; go_simp; try (with_reducible rfl)
          rotate_left
          refine wpAny_ready (rs := [1, 5]) (by kernel_rfl) (by simp) ?_
          refine AllReady.cons rfl (fun K hK => ?_) (AllReady.cons rfl (fun K hK => ?_) AllReady.nil)
          · go_simp
            refine (list_any N8.out).mono ?_
            rintro e w1a ⟨u1, rfl, hO, hb⟩
            obtain ⟨A1, k1, rfl, hr1, -, -⟩ := OwnL.row hO
            have L1 := Aside0.mk hr1
            have N1x := Aside0.mk (N8.out.below hb)
            have M1x := Aside0.mk (M8.out.below hb)
            have R1x := Aside0.mk (RowL.below R8.out hb)
            have cc1 : w1a.cell? ⟨q, 1, none⟩ = some (.slice A6 zs2.length k6) := (blk_cell M1x.out.blk 1).trans rfl
            clear hO hb hr1
            (try go_simp)
            refine hK _ _ ?_
            clear hK K
            refine wpAny_ready (rs := [5]) (by kernel_rfl) (by simp) ?_
            refine AllReady.cons rfl (fun K hK => ?_) AllReady.nil
            go_simp
            (try go_simp)
            refine hK _ _ ?_
            clear hK K
            refine wpAny_ready (rs := [6]) (by kernel_rfl) (by simp) ?_
            refine AllReady.cons rfl (fun K hK => ?_) AllReady.nil
            go_simp
            refine (same_any L1.out R1x.out (by have := N8.out.room; omega) (by have := N8.out.room; omega)).mono ?_
            rintro e w3a ⟨r, rfl, hr, hb⟩
            obtain rfl : r = true := hr.2 rfl
            have N3x := Aside0.mk (N1x.out.below hb)
            have M3x := Aside0.mk (M1x.out.below hb)
            clear hr hb
            (try go_simp)
            refine hK _ _ ?_
            clear hK K
            refine wpAny_take (i := 7) (v := ?_) rfl (by kernel_rfl) (by kernel_rfl) (by kernel_rfl) (fun _ _ _ h => h) (Or.inl ⟨by kernel_rfl, ?_⟩) ?_
            rotate_left
            · intro w; go_simp; try (with_reducible rfl)
            rotate_left
            refine wpAny_done (by kernel_rfl) ?_ _
            go_wp2
            go_roundw
            case rel => exact ⟨i + 1, g2, zs2, v2, .slice A6 zs2.length k6, rfl, by go_num, by omega, N3x, M3x, P6⟩
            case measure => simp [intOf]; omega
          · go_simp
            (try go_simp)
            refine hK _ _ ?_
            clear hK K
            refine wpAny_ready (rs := [1]) (by kernel_rfl) (by simp) ?_
            refine AllReady.cons rfl (fun K hK => ?_) AllReady.nil
            go_simp
            refine (list_any N8.out).mono ?_
            rintro e w5a ⟨u5, rfl, hO, hb⟩
            obtain ⟨A5, k5, rfl, hr5, -, -⟩ := OwnL.row hO
            have L5 := Aside0.mk hr5
            have N5x := Aside0.mk (N8.out.below hb)
            have M5x := Aside0.mk (M8.out.below hb)
            have R5x := Aside0.mk (RowL.below R8.out hb)
            have cc5 : w5a.cell? ⟨q, 1, none⟩ = some (.slice A6 zs2.length k6) := (blk_cell M5x.out.blk 1).trans rfl
            clear hO hb hr5
            (try go_simp)
            refine hK _ _ ?_
            clear hK K
            refine wpAny_ready (rs := [6]) (by kernel_rfl) (by simp) ?_
            refine AllReady.cons rfl (fun K hK => ?_) AllReady.nil
            go_simp
            refine (same_any L5.out R5x.out (by have := N8.out.room; omega) (by have := N8.out.room; omega)).mono ?_
            rintro e w6a ⟨r, rfl, hr, hb⟩
            obtain rfl : r = true := hr.2 rfl
            have N6x := Aside0.mk (N5x.out.below hb)
            have M6x := Aside0.mk (M5x.out.below hb)
            clear hr hb
            (try go_simp)
            refine hK _ _ ?_
            clear hK K
            refine wpAny_take (i := 7) (v := ?_) rfl (by kernel_rfl) (by kernel_rfl) (by kernel_rfl) (fun _ _ _ h => h) (Or.inl ⟨by kernel_rfl, ?_⟩) ?_
            rotate_left
            · intro w; go_simp; try (with_reducible rfl)
            rotate_left
            refine wpAny_done (by kernel_rfl) ?_ _
            go_wp2
            go_roundw
            case rel => exact ⟨i + 1, g2, zs2, v2, .slice A6 zs2.length k6, rfl, by go_num, by omega, N6x, M6x, P6⟩
            case measure => simp [intOf]; omega
      · have : i = xs.length := by omega
        subst this
        go_wp2
        go_ret
        exact ⟨rfl, NN.out.bel⟩

end Go.Proofs.Ytedfjadgfkbfiaa.NetW
