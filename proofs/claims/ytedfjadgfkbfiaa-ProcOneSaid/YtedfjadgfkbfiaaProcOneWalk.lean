/- ProcOne, walked: of any operations and ticks it answers true. -/
import Derived.Test.YtedfjadgfkbfiaaProcApi
import Derived.Test.YtedfjadgfkbfiaaSlices
import Derived.Test.YtedfjadgfkbfiaaWEqStruct
import Derived.Deep.LoopGhost
namespace Go.Proofs.Ytedfjadgfkbfiaa.ProcW
open Go.RowKit Go.Proofs.YtedfjadgfkbfiaaW.PrintWords Go.Proofs.YtedfjadgfkbfiaaW.PrintLast Go.Proofs.YtedfjadgfkbfiaaW.PrintMore Go.Proofs.Ytedfjadgfkbfiaa.Timer Go.Proofs.Ytedfjadgfkbfiaa.Aid Go.Proofs.Ytedfjadgfkbfiaa.Opens
set_option linter.unusedVariables false
theorem eqA54 (d : Nat) (w : World) (x0 y0 : Int) (x1 y1 : Bool) (x2 y2 : Int) :
    (Op.equalIn (d + 2) 54 (.agg #[.int .i64 x0, .bool x1, .int .i64 x2]) (.agg #[.int .i64 y0, .bool y1, .int .i64 y2])).run Try.prog w = .ok (x0 == y0 && (x1 == y1 && (x2 == y2))) w := by
  refine eqA_of Try.underlying54 (by kernel_rfl) ?_
  refine eqf_cons (by rfl) (by go_simp; rfl) (by go_simp; rfl) (by go_simp) ?_
  refine eqf_cons (by rfl) (by go_simp; rfl) (by go_simp; rfl) (by go_simp) ?_
  exact eqf_last (by rfl) (by go_simp; rfl) (by go_simp; rfl) (by go_simp)
attribute [local go_sem high] eqA54

set_option maxHeartbeats 4000000 in
set_option maxRecDepth 100000 in
theorem one_any (A : Option Addr) (cap : Nat) (xs : List OpR) (m : Int) (w : World) (hR : Row opCells (0, false, 0) 3 w A xs) (hlen : xs.length ≤ 9223372036854775807) :
    Calls Try.prog 11 #[.slice A xs.length cap, .int .i64 m] w (RB true w) := by
  have R0 := Aside0.mk hR
  clear hR
  by_cases h100 : (100 : Int) < (xs.length : Int)
  · go_enter Try.func11, Try.ntmps11
    go_wp2_with fail
    refine (awake_any _).mono ?_
    rintro e w1 ⟨rfl, hb⟩
    have B1 := Aside0.mk hb
    clear hb
    go_wp2_with fail
    refine (awake_any _).mono ?_
    rintro e w2 ⟨rfl, hb⟩
    have B2 := Aside0.mk (B1.out.trans (hb.mono B1.out.size))
    clear hb
    go_wp2
    go_ret
    exact ⟨rfl, B2.out⟩
  · have F0 := Aside0.mk (P.new_fits 1 1 (by omega) (by omega))
    go_enter Try.func11, Try.ntmps11
    go_wp2_with fail
    refine (awake_any _).mono ?_
    rintro e w1 ⟨rfl, hb⟩
    have B1 := Aside0.mk hb
    clear hb
    go_wp2_with fail
    refine (new_any 1 1 w _ B1.out).mono ?_
    rintro e w2 ⟨g, rfl, hs, hb1, -, -⟩
    have S2 := Aside0.mk hs
    have B2 := Aside0.mk hb1
    clear hs hb1
    go_wp2_with fail
    go_loopw [27] (fun v27 wr => ∃ (k : Nat) (s : P), v27 = .int .i64 k ∧ k ≤ xs.length ∧ Aside0 (s.at_ g w wr) ∧ Aside0 (Below w.heap.size w wr) ∧ Aside0 (s.bz = false ∧ s.fits ∧ s.nm = k)) (fun v27 _ => xs.length - (intOf v27).toNat)
    case atStart => exact ⟨0, _, rfl, Nat.zero_le _, S2, B2, ⟨rfl, F0.out, rfl⟩⟩
    case round =>
      obtain ⟨k, s, rfl, hk, S, B, F⟩ := hrel
      obtain ⟨wo, rfl⟩ : ∃ wo : World, wo = wr := ⟨_, rfl⟩
      have hk2 : (k : Int) ≤ 9223372036854775807 := by omega
      by_cases hlt : k < xs.length
      · have hq : (k : Int) < (xs.length : Int) := by omega
        have hq0 : (0 : Int) ≤ (k : Int) := by omega
        obtain ⟨ad, rfl, hcell⟩ := (R0.out.below (fun _ => rfl) B.out) k hlt
        have d0 := hcell 0 (by omega)
        have d1 := hcell 1 (by omega)
        have d2 := hcell 2 (by omega)
        generalize xs.getD k (0, false, 0) = o at *
        obtain ⟨b, wr', v⟩ := o
        simp only [opCells, List.getElem?_cons_zero, List.getElem?_cons_succ] at d0 d1 d2
        clear hcell
        rw [← Go.Deep.add_add] at d1 d2
        have e0 : wo.cell? (ad.add (k * 3)) = some (.int .i64 b) := d0
        have e1 : wo.cell? ⟨(ad.add (k * 3)).block, (ad.add (k * 3)).off + 1, none⟩ = some (.bool wr') := by simpa [Addr.add] using d1
        have e2 : wo.cell? ⟨(ad.add (k * 3)).block, (ad.add (k * 3)).off + 2, none⟩ = some (.int .i64 v) := by simpa [Addr.add] using d2
        clear d0 d1 d2
        go_wp2_with fail
        refine (issue_yes b wr' v (P.below S.out (below_alloc (Below.refl _ _) _)) (below_alloc B.out _) F.out.1).mono ?_
        rintro e w3 ⟨rfl, hs, hb1, hk1⟩
        have NG := Aside0.mk (show wo.heap.size ≠ g by have := S.out.lt; omega)
        have S3 := Aside0.mk hs
        have B3 := Aside0.mk hb1
        have A3 := Aside0.mk (hk1.blk (blk_new wo (.cells #[.int .i64 b, .bool wr', .int .i64 v] 54)) NG.out (by simp))
        clear hs hb1 hk1
        go_wp2_with fail
        refine (issue_no 0 false 0 S3.out B3.out rfl).mono ?_
        rintro e w4 ⟨rfl, hs, hb1, hk1⟩
        have S4 := Aside0.mk hs
        have B4 := Aside0.mk hb1
        have A4 := Aside0.mk (hk1.blk A3.out NG.out (by simp))
        clear hs hb1 hk1
        go_wp2_with fail
        have hK0 := Int.tmod_nonneg 5 (wrap_u64_nonneg m)
        have hK1 := Int.tmod_lt_of_pos (IntKind.u64.wrap m) (show (0 : Int) < 5 by omega)
        generalize (IntKind.u64.wrap m).tmod 5 = K at *
        rw [w64 (n := K) (by omega) (by omega)]
        have F4 := Aside0.mk (P.issue_fits F.out.2.1 b wr' v)
        clear e0 e1 e2
        have hnm : (s.issue b wr' v).nm = (k : Int) + 1 := by
          show wrap64 (s.nm + 1) = _
          rw [F.out.2.2]; exact w64 (by omega) (by omega)
        have Hnm := Aside0.mk hnm
        clear hnm
        go_loopw [45] (fun v45 w' => ∃ (i : Int) (s' : P), v45 = .int .i64 i ∧ 0 ≤ i ∧ i ≤ K ∧ Aside0 (s'.at_ g w w') ∧ Aside0 (Below w.heap.size w w') ∧ Aside0 (w'.heap[wo.heap.size]? = some (.cells #[.int .i64 b, .bool wr', .int .i64 v] 54 (0, 0))) ∧ Aside0 (s'.bz = true ∧ s'.fits ∧ s'.nm = (k : Int) + 1 ∧ s'.B = b ∧ s'.W = wr' ∧ s'.V = v)) (fun v45 _ => (K - intOf v45).toNat)
        case atStart => exact ⟨0, _, rfl, by omega, by omega, S4, B4, A4, ⟨rfl, F4.out, Hnm.out, rfl, rfl, rfl⟩⟩
        case round =>
          obtain ⟨i, s', rfl, hi0, hi1, T, C, AA, G⟩ := hrel
          by_cases hlt2 : i < K
          · go_wp2_with fail
            refine (tick_yes G.out.2.1 T.out C.out G.out.1).mono ?_
            rintro e w5 ⟨rfl, hs, hb1, hk1⟩
            have T5 := Aside0.mk hs
            have C5 := Aside0.mk hb1
            have A5 := Aside0.mk (hk1.blk AA.out NG.out (by simp))
            clear hs hb1 hk1
            go_wp2
            go_roundw
            case rel => exact ⟨i + 1, s'.tick, by go_num, by omega, by omega, T5, C5, A5, ⟨G.out.1, P.tick_fits G.out.2.1, G.out.2.2⟩⟩
            case measure => simp [intOf]; omega
          · go_wp2_with fail
            have hp := pend T.out C.out
            rw [G.out.1, G.out.2.2.2.1, G.out.2.2.2.2.1, G.out.2.2.2.2.2] at hp
            refine hp.mono ?_
            clear hp
            rintro e w5 ⟨rfl, hs, hb1, hk1⟩
            have T5 := Aside0.mk hs
            have C5 := Aside0.mk hb1
            have A5 := Aside0.mk (hk1.blk AA.out NG.out (by simp))
            clear hs hb1 hk1
            go_wp2_with fail
            have hp := finish_yes (w := w5.alloc (.cells #[.int .i64 b, .bool wr', .int .i64 v] 54)) (P.below T5.out (below_alloc (Below.refl _ _) _)) (below_alloc C5.out _) G.out.1
            rw [G.out.2.2.1] at hp
            refine hp.mono ?_
            clear hp
            rintro e w6 ⟨rfl, hs, hb1, hk1⟩
            have T6 := Aside0.mk hs
            have C6 := Aside0.mk hb1
            have A6 := Aside0.mk (hk1.blk (blk_alloc A5.out _) NG.out (by simp))
            have A7 := Aside0.mk (hk1.blk (blk_new w5 (.cells #[.int .i64 b, .bool wr', .int .i64 v] 54)) (by have := T5.out.lt; omega) (by simp))
            have c0 : w6.cell? ⟨wo.heap.size, 0, none⟩ = some (.int .i64 b) := (blk_cell A6.out 0).trans rfl
            have c1 : w6.cell? ⟨wo.heap.size, 1, none⟩ = some (.bool wr') := (blk_cell A6.out 1).trans rfl
            have c2 : w6.cell? ⟨wo.heap.size, 2, none⟩ = some (.int .i64 v) := (blk_cell A6.out 2).trans rfl
            have c3 : w6.cell? ⟨w5.heap.size, 0, none⟩ = some (.int .i64 b) := (blk_cell A7.out 0).trans rfl
            have c4 : w6.cell? ⟨w5.heap.size, 1, none⟩ = some (.bool wr') := (blk_cell A7.out 1).trans rfl
            have c5 : w6.cell? ⟨w5.heap.size, 2, none⟩ = some (.int .i64 v) := (blk_cell A7.out 2).trans rfl
            clear hs hb1 hk1
            go_wp2
            go_roundw
            case rel => exact ⟨k + 1, s'.finish, by go_num, by omega, T6, C6, ⟨rfl, P.finish_fits G.out.2.1, by show s'.nm = _; rw [G.out.2.2.1]; omega⟩⟩
            case measure => simp [intOf]; omega
      · have : k = xs.length := by omega
        subst this
        go_wp2_with fail
        refine (pend S.out B.out).mono ?_
        rintro e w3 ⟨rfl, hs, hb1, -⟩
        have B3 := Aside0.mk hb1
        have hz := F.out.1
        clear hs hb1
        go_wp2
        go_ret
        exact ⟨rfl, by repeat (first | exact B3.out | apply below_alloc)⟩
end Go.Proofs.Ytedfjadgfkbfiaa.ProcW
