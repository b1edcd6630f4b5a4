/- ProcIdle, walked: of any wait, tries and ticks it answers true. -/
import Derived.Test.YtedfjadgfkbfiaaProcApi
import Derived.Deep.LoopGhost
namespace Go.Proofs.Ytedfjadgfkbfiaa.ProcW
open Go.RowKit Go.Proofs.YtedfjadgfkbfiaaW.PrintWords Go.Proofs.YtedfjadgfkbfiaaW.PrintLast Go.Proofs.YtedfjadgfkbfiaaW.PrintMore Go.Proofs.Ytedfjadgfkbfiaa.Timer Go.Proofs.Ytedfjadgfkbfiaa.Aid
set_option linter.unusedVariables false

set_option maxHeartbeats 4000000 in
set_option maxRecDepth 100000 in
theorem idle_out (x t a b : Int) (h : ¬ (1 ≤ x ∧ x ≤ 16 ∧ 0 ≤ t ∧ t ≤ 6)) (w : World) :
    Calls Try.prog 10 #[.int .i64 x, .int .i64 t, .agg #[.int .i64 a, .int .i64 b]] w (RB true w) := by
  have hc : x < 1 ∨ (1 ≤ x ∧ 16 < x) ∨ (1 ≤ x ∧ x ≤ 16 ∧ t < 0) ∨ (1 ≤ x ∧ x ≤ 16 ∧ 0 ≤ t ∧ 6 < t) := by omega
  clear h
  have B0 := Aside0.mk (below_alloc (Below.refl w.heap.size w) (.cells #[.int .i64 a, .int .i64 b] 59))
  rcases hc with h1 | ⟨h1, h2⟩ | ⟨h1, h2, h3⟩ | ⟨h1, h2, h3, h4⟩
  all_goals
    go_enter Try.func10, Try.ntmps10
    go_wp2_with fail
    refine (awake_any _).mono ?_
    rintro e w1 ⟨rfl, hb⟩
    have B1 := Aside0.mk (B0.out.trans (hb.mono B0.out.size))
    clear hb
    go_wp2_with fail
    refine (awake_any _).mono ?_
    rintro e w2 ⟨rfl, hb⟩
    have B2 := Aside0.mk (B1.out.trans (hb.mono B1.out.size))
    clear hb
    go_wp2
    go_ret
    exact ⟨rfl, B2.out⟩

set_option maxHeartbeats 4000000 in
set_option maxRecDepth 100000 in
theorem idle_in (x t a b : Int) (b0 : 1 ≤ x) (b1 : x ≤ 16) (ht0 : 0 ≤ t) (ht : t ≤ 6) (w : World) :
    Calls Try.prog 10 #[.int .i64 x, .int .i64 t, .agg #[.int .i64 a, .int .i64 b]] w (RB true w) := by
  have B0 := Aside0.mk (below_alloc (Below.refl w.heap.size w) (.cells #[.int .i64 a, .int .i64 b] 59))
  have F0 := Aside0.mk (P.new_fits x t (by omega) (by omega))
  have h16 : ¬ (16 < x) := by omega
  have h6 : ¬ (6 < t) := by omega
  have h0 : ¬ (t < 0) := by omega
  have h1 : ¬ (x < 1) := by omega
  go_enter Try.func10, Try.ntmps10
  go_wp2_with fail
  refine (awake_any _).mono ?_
  rintro e w1 ⟨rfl, hb⟩
  have B1 := Aside0.mk (B0.out.trans (hb.mono B0.out.size))
  have K1 := Aside0.mk (blk_below (blk_new w (.cells #[.int .i64 a, .int .i64 b] 59)) hb)
  clear hb
  go_wp2_with fail
  refine (new_any x t w _ B1.out).mono ?_
  rintro e w2 ⟨g, rfl, hs, hb1, hb2, hg1⟩
  have S2 := Aside0.mk hs
  have B2 := Aside0.mk hb1
  have K2 := Aside0.mk (blk_below K1.out hb2)
  have NG := Aside0.mk (show w.heap.size ≠ g by have := blk_lt K1.out; omega)
  clear hs hb1 hb2 hg1
  go_wp2_with fail
  refine (new_any x t w _ B2.out).mono ?_
  rintro e w3 ⟨g', rfl, hs, hb1, hb2, hg⟩
  have S3 := Aside0.mk hs
  have S3p := Aside0.mk (S2.out.below hb2)
  have B3 := Aside0.mk hb1
  have K3 := Aside0.mk (blk_below K2.out hb2)
  have ne : g ≠ g' := by have := S2.out.lt; omega
  have NE := Aside0.mk ne
  have NG' := Aside0.mk (show w.heap.size ≠ g' by have := blk_lt K2.out; omega)
  have na : w.heap.size < w3.heap.size := blk_lt K3.out
  have c0 : w3.cell? ⟨w.heap.size, 0, none⟩ = some (.int .i64 a) := (blk_cell K3.out 0).trans rfl
  have c1 : w3.cell? ⟨w.heap.size, 1, none⟩ = some (.int .i64 b) := (blk_cell K3.out 1).trans rfl
  clear hs hb1 hb2 hg ne
  go_wp2_with fail
  have hK0 := Int.tmod_nonneg 40 (wrap_u64_nonneg a)
  have hK1 := Int.tmod_lt_of_pos (IntKind.u64.wrap a) (show (0 : Int) < 40 by omega)
  generalize (IntKind.u64.wrap a).tmod 40 = K at *
  rw [w64 (n := K) (by omega) (by omega)]
  clear c0 c1 na
  go_loopw [45] (fun v45 wr => ∃ (i : Int), v45 = .int .i64 i ∧ 0 ≤ i ∧ i ≤ K ∧ Aside0 ((P.new x t).at_ g w wr) ∧ Aside0 ((P.new x t).at_ g' w wr) ∧ Aside0 (Below w.heap.size w wr) ∧ Aside0 (wr.heap[w.heap.size]? = some (.cells #[.int .i64 a, .int .i64 b] 59 (0, 0)))) (fun v45 _ => (K - intOf v45).toNat)
  case atStart => exact ⟨0, rfl, by omega, by omega, S3p, S3, B3, K3⟩
  case round =>
    obtain ⟨i, rfl, hi0, hi1, S, S', B, A⟩ := hrel
    by_cases hlt : i < K
    · go_wp2_with fail
      refine (tick_no S.out B.out rfl).mono ?_
      rintro e w5 ⟨rfl, hs, hb1, hk⟩
      have S5 := Aside0.mk hs
      have S5' := Aside0.mk (P.kept S'.out hk (Ne.symm NE.out))
      have B5 := Aside0.mk hb1
      have A5 := Aside0.mk (hk.blk A.out NG.out (by simp))
      clear hs hb1 hk
      go_wp2
      go_roundw
      case rel => exact ⟨i + 1, by go_num, by omega, by omega, S5, S5', B5, A5⟩
      case measure => simp [intOf]; omega
    · go_wp2_with fail
      refine (issue_yes 0 false 0 S.out B.out rfl).mono ?_
      rintro e w5 ⟨rfl, hs, hb1, hk⟩
      have S5 := Aside0.mk hs
      have S5' := Aside0.mk (P.kept S'.out hk (Ne.symm NE.out))
      have B5 := Aside0.mk hb1
      have A5 := Aside0.mk (hk.blk A.out NG.out (by simp))
      clear hs hb1 hk
      go_wp2_with fail
      refine (issue_yes 0 false 0 S5'.out B5.out rfl).mono ?_
      rintro e w6 ⟨rfl, hs, hb1, hk⟩
      have S6' := Aside0.mk hs
      have S6 := Aside0.mk (P.kept S5.out hk NE.out)
      have B6 := Aside0.mk hb1
      have A6 := Aside0.mk (hk.blk A5.out NG'.out (by simp))
      have c0 : w6.cell? ⟨w.heap.size, 0, none⟩ = some (.int .i64 a) := (blk_cell A6.out 0).trans rfl
      have c1 : w6.cell? ⟨w.heap.size, 1, none⟩ = some (.int .i64 b) := (blk_cell A6.out 1).trans rfl
      clear hs hb1 hk
      go_wp2_with fail
      have hJ0 := Int.tmod_nonneg 200 (wrap_u64_nonneg b)
      have hJ1 := Int.tmod_lt_of_pos (IntKind.u64.wrap b) (show (0 : Int) < 200 by omega)
      generalize (IntKind.u64.wrap b).tmod 200 = J at *
      rw [w64 (n := J) (by omega) (by omega)]
      clear c0 c1
      have F6 := Aside0.mk (P.issue_fits F0.out 0 false 0)
      go_loopw [62] (fun v62 wr => ∃ (i : Int) (s : P), v62 = .int .i64 i ∧ 0 ≤ i ∧ i ≤ J ∧ Aside0 (s.at_ g w wr) ∧ Aside0 (s.at_ g' w wr) ∧ Aside0 (Below w.heap.size w wr) ∧ Aside0 (s.bz = true ∧ s.fits)) (fun v62 _ => (J - intOf v62).toNat)
      case atStart => exact ⟨0, _, rfl, by omega, by omega, S6, S6', B6, ⟨rfl, F6.out⟩⟩
      case round =>
        obtain ⟨j, s, rfl, hj0, hj1, T, T', C, F⟩ := hrel
        by_cases hlt2 : j < J
        · go_wp2_with fail
          refine (tick_yes F.out.2 T.out C.out F.out.1).mono ?_
          rintro e w7 ⟨rfl, hs, hb1, hk⟩
          have T7 := Aside0.mk hs
          have T7' := Aside0.mk (P.kept T'.out hk (Ne.symm NE.out))
          have C7 := Aside0.mk hb1
          clear hs hb1 hk
          go_wp2_with fail
          refine (tick_yes F.out.2 T7'.out C7.out F.out.1).mono ?_
          rintro e w8 ⟨rfl, hs, hb1, hk⟩
          have T8' := Aside0.mk hs
          have T8 := Aside0.mk (P.kept T7.out hk NE.out)
          have C8 := Aside0.mk hb1
          clear hs hb1 hk
          go_wp2
          go_roundw
          case rel => exact ⟨j + 1, s.tick, by go_num, by omega, by omega, T8, T8', C8, ⟨F.out.1, P.tick_fits F.out.2⟩⟩
          case measure => simp [intOf]; omega
        · go_wp2
          go_ret
          exact ⟨rfl, C.out⟩

theorem idle_any (x y a b : Int) (w : World) : Calls Try.prog 10 #[.int .i64 x, .int .i64 y, .agg #[.int .i64 a, .int .i64 b]] w (RB true w) := by
  by_cases h : 1 ≤ x ∧ x ≤ 16 ∧ 0 ≤ y ∧ y ≤ 6
  · exact idle_in x y a b h.1 h.2.1 h.2.2.1 h.2.2.2 w
  · exact idle_out x y a b h w
end Go.Proofs.Ytedfjadgfkbfiaa.ProcW
