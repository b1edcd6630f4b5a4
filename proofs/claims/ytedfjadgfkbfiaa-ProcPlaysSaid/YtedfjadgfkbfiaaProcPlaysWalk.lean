/- ProcPlays, walked: in every order of calls it answers true. -/
import Derived.Test.YtedfjadgfkbfiaaRefApi
import Derived.Test.YtedfjadgfkbfiaaSlices
import Derived.Test.YtedfjadgfkbfiaaWEqStruct
import Derived.Deep.LoopGhost
import Derived.Deep.DeepCutAuto
namespace Go.Proofs.Ytedfjadgfkbfiaa.ProcW
open Go.RowKit Go.Proofs.YtedfjadgfkbfiaaW.PrintWords Go.Proofs.YtedfjadgfkbfiaaW.PrintLast Go.Proofs.YtedfjadgfkbfiaaW.PrintMore Go.Proofs.Ytedfjadgfkbfiaa.Timer Go.Proofs.Ytedfjadgfkbfiaa.Aid Go.Proofs.Ytedfjadgfkbfiaa.Opens
set_option linter.unusedVariables false
theorem eqP54 (d : Nat) (w : World) (x0 y0 : Int) (x1 y1 : Bool) (x2 y2 : Int) :
    (Op.equalIn (d + 2) 54 (.agg #[.int .i64 x0, .bool x1, .int .i64 x2]) (.agg #[.int .i64 y0, .bool y1, .int .i64 y2])).run Try.prog w = .ok (x0 == y0 && (x1 == y1 && (x2 == y2))) w := by
  refine eqA_of Try.underlying54 (by kernel_rfl) ?_
  refine eqf_cons (by rfl) (by go_simp; rfl) (by go_simp; rfl) (by go_simp) ?_
  refine eqf_cons (by rfl) (by go_simp; rfl) (by go_simp; rfl) (by go_simp) ?_
  exact eqf_last (by rfl) (by go_simp; rfl) (by go_simp; rfl) (by go_simp)
attribute [local go_sem high] eqP54


/-- A call whether the processor waits or not. -/
def P.iss (s : P) (b : Int) (wr : Bool) (v : Int) : P := if s.bz = true then s else s.issue b wr v
def P.fin (s : P) : P := if s.bz = true then s.finish else s
def P.finN (s : P) : Int := if s.bz = true then s.nm else 0
def P.tck (s : P) : P := if s.bz = true then s.tick else s
def P.tckN (s : P) : Int := if s.bz = true then s.what else 0
theorem P.iss_fits {s : P} (h : s.fits) (b : Int) (wr : Bool) (v : Int) : (s.iss b wr v).fits := by unfold P.iss; split; exact h; exact P.issue_fits h _ _ _
theorem P.fin_fits {s : P} (h : s.fits) : s.fin.fits := by unfold P.fin; split; exact P.finish_fits h; exact h
theorem P.tck_fits {s : P} (h : s.fits) : s.tck.fits := by unfold P.tck; split; exact P.tick_fits h; exact h
theorem issue_all {s : P} {g : Nat} {w0 w : World} (b : Int) (wr : Bool) (v : Int) (h : s.at_ g w0 w) (hb : Below w0.heap.size w0 w) :
    Calls Try.prog 30 #[.pointer (some ⟨g, 0, none⟩), .agg #[.int .i64 b, .bool wr, .int .i64 v]] w (Post (.bool (!s.bz)) (s.iss b wr v) g w0 w) := by
  cases hz : s.bz with
  | true => rw [show s.iss b wr v = s from if_pos hz]; exact issue_no b wr v h hb hz
  | false => rw [show s.iss b wr v = s.issue b wr v from if_neg (by simp [hz])]; exact issue_yes b wr v h hb hz
theorem rissue_all {s : P} {g : Nat} {w0 w : World} (b : Int) (wr : Bool) (v : Int) (h : s.rat g w0 w) (hb : Below w0.heap.size w0 w) :
    Calls Try.prog 37 #[.pointer (some ⟨g, 0, none⟩), .agg #[.int .i64 b, .bool wr, .int .i64 v]] w (RPost (.bool (!s.bz)) (s.iss b wr v) g w0 w) := by
  cases hz : s.bz with
  | true => rw [show s.iss b wr v = s from if_pos hz]; exact rissue_no b wr v h hb hz
  | false => rw [show s.iss b wr v = s.issue b wr v from if_neg (by simp [hz])]; exact rissue_yes b wr v h hb hz
theorem finish_all {s : P} {g : Nat} {w0 w : World} (h : s.at_ g w0 w) (hb : Below w0.heap.size w0 w) :
    Calls Try.prog 34 #[.pointer (some ⟨g, 0, none⟩)] w (Post (.tuple #[.int .i64 s.finN, .bool s.bz]) s.fin g w0 w) := by
  cases hz : s.bz with
  | true => rw [show s.fin = s.finish from if_pos hz, show s.finN = s.nm from if_pos hz]; exact finish_yes h hb hz
  | false => rw [show s.fin = s from if_neg (by simp [hz]), show s.finN = 0 from if_neg (by simp [hz])]; exact finish_no h hb hz
theorem rfinish_all {s : P} {g : Nat} {w0 w : World} (h : s.rat g w0 w) (hb : Below w0.heap.size w0 w) :
    Calls Try.prog 38 #[.pointer (some ⟨g, 0, none⟩)] w (RPost (.tuple #[.int .i64 s.finN, .bool s.bz]) s.fin g w0 w) := by
  cases hz : s.bz with
  | true => rw [show s.fin = s.finish from if_pos hz, show s.finN = s.nm from if_pos hz]; exact rfinish_yes h hb hz
  | false => rw [show s.fin = s from if_neg (by simp [hz]), show s.finN = 0 from if_neg (by simp [hz])]; exact rfinish_no h hb hz
theorem tick_all {s : P} {g : Nat} {w0 w : World} (hf : s.fits) (h : s.at_ g w0 w) (hb : Below w0.heap.size w0 w) :
    Calls Try.prog 32 #[.pointer (some ⟨g, 0, none⟩)] w (Post (.int .i64 s.tckN) s.tck g w0 w) := by
  cases hz : s.bz with
  | true => rw [show s.tck = s.tick from if_pos hz, show s.tckN = s.what from if_pos hz]; exact tick_yes hf h hb hz
  | false => rw [show s.tck = s from if_neg (by simp [hz]), show s.tckN = 0 from if_neg (by simp [hz])]; exact tick_no h hb hz
theorem rtick_all {s : P} {g : Nat} {w0 w : World} (hf : s.fits) (h : s.rat g w0 w) (hb : Below w0.heap.size w0 w) :
    Calls Try.prog 39 #[.pointer (some ⟨g, 0, none⟩)] w (RPost (.int .i64 s.tckN) s.tck g w0 w) := by
  cases hz : s.bz with
  | true => rw [show s.tck = s.tick from if_pos hz, show s.tckN = s.what from if_pos hz]; exact rtick_yes hf h hb hz
  | false => rw [show s.tck = s from if_neg (by simp [hz]), show s.tckN = 0 from if_neg (by simp [hz])]; exact rtick_no h hb hz

set_option maxHeartbeats 4000000 in
set_option maxRecDepth 100000 in
theorem plays_any (x t : Int) (A : Option Addr) (cap : Nat) (xs : List ActR) (hx : x ≤ 9223372036854775807) (ht : t ≤ 9223372036854775807) (w : World) (hR : Row actCells (0, 0, false, 0) 4 w A xs) (hlen : xs.length ≤ 9223372036854775807) :
    Calls Try.prog 13 #[.int .i64 x, .int .i64 t, .slice A xs.length cap] w (RB true w) := by
  have R0 := Aside0.mk hR
  have F0 := Aside0.mk (P.new_fits x t hx ht)
  clear hR hx ht
  by_cases h300 : (300 : Int) < (xs.length : Int)
  · go_enter Try.func13, Try.ntmps13
    go_wp2_with fail
    refine (awake_any _).mono ?_
    rintro e w1 ⟨rfl, hb⟩
    have B1 := Aside0.mk hb
    clear hb
    go_wp2_with fail
    refine (awake_any _).mono ?_
    rintro e w2 ⟨rfl, hb⟩
    have B2 := Aside0.mk (B1.out.trans (hb.mono B1.out.size))
    clear hb
    go_wp2
    go_ret
    exact ⟨rfl, B2.out⟩
  · go_enter Try.func13, Try.ntmps13
    go_wp2_with fail
    refine (awake_any _).mono ?_
    rintro e w1 ⟨rfl, hb⟩
    have B1 := Aside0.mk hb
    clear hb
    go_wp2_with fail
    refine (new_any x t w _ B1.out).mono ?_
    rintro e w2 ⟨g, rfl, hs, hb1, -, -⟩
    have S2 := Aside0.mk hs
    have B2 := Aside0.mk hb1
    clear hs hb1
    go_wp2_with fail
    have R2 := Aside0.mk (show (P.new x t).rat w2.heap.size w (w2.alloc (.cells #[.int .i64 x, .int .i64 t, .int .i64 0, .int .i64 0, .bool false, .int .i64 0, .bool false, .int .i64 0, .int .i64 0, .bool false] 78)) from ⟨blk_new w2 _, B2.out.size⟩)
    have S3 := Aside0.mk (P.below S2.out (below_alloc (Below.refl _ _) (.cells #[.int .i64 x, .int .i64 t, .int .i64 0, .int .i64 0, .bool false, .int .i64 0, .bool false, .int .i64 0, .int .i64 0, .bool false] 78)))
    have B3 := Aside0.mk (below_alloc B2.out (.cells #[.int .i64 x, .int .i64 t, .int .i64 0, .int .i64 0, .bool false, .int .i64 0, .bool false, .int .i64 0, .int .i64 0, .bool false] 78))
    have NE := Aside0.mk (show g ≠ w2.heap.size by have := S2.out.lt; omega)
    generalize w2.heap.size = q at *
    go_loopw [7, 37] (fun v7 v37 wr => ∃ (k g : Nat) (s : P), v7 = .pointer (some ⟨g, 0, none⟩) ∧ v37 = .int .i64 k ∧ k ≤ xs.length ∧ Aside0 (s.at_ g w wr) ∧ Aside0 (s.rat q w wr) ∧ Aside0 (Below w.heap.size w wr) ∧ Aside0 (s.fits ∧ g ≠ q)) (fun _ v37 _ => xs.length - (intOf v37).toNat)
    case atStart => exact ⟨0, g, _, rfl, rfl, Nat.zero_le _, S3, R2, B3, ⟨F0.out, NE.out⟩⟩
    case round =>
      clear S3 R2 B3 NE S2 B2
      obtain ⟨k, g, s, rfl, rfl, hk, S, R, B, F⟩ := hrel
      have hk2 : (k : Int) ≤ 9223372036854775807 := by omega
      by_cases hlt : k < xs.length
      · have hq : (k : Int) < (xs.length : Int) := by omega
        have hq0 : (0 : Int) ≤ (k : Int) := by omega
        obtain ⟨ad, rfl, hcell⟩ := (R0.out.below (fun _ => rfl) B.out) k hlt
        have d0 := hcell 0 (by omega)
        have d1 := hcell 1 (by omega)
        have d2 := hcell 2 (by omega)
        have d3 := hcell 3 (by omega)
        generalize xs.getD k (0, 0, false, 0) = o at *
        obtain ⟨kd, b, wr', v⟩ := o
        simp only [actCells, opCells, List.getElem?_cons_zero, List.getElem?_cons_succ] at d0 d1 d2 d3
        clear hcell
        rw [← Go.Deep.add_add] at d1 d2 d3
        have e0 : wr.cell? (ad.add (k * 4)) = some (.int .i64 kd) := d0
        have e1 : wr.cell? ⟨(ad.add (k * 4)).block, (ad.add (k * 4)).off + 1, none⟩ = some (.int .i64 b) := by simpa [Addr.add] using d1
        have e2 : wr.cell? ⟨(ad.add (k * 4)).block, (ad.add (k * 4)).off + 2, none⟩ = some (.bool wr') := by simpa [Addr.add] using d2
        have e3 : wr.cell? ⟨(ad.add (k * 4)).block, (ad.add (k * 4)).off + 3, none⟩ = some (.int .i64 v) := by simpa [Addr.add] using d3
        clear d0 d1 d2 d3
        go_upto_block 2 with fail
        have S1 := Aside0.mk (P.below S.out (below_alloc (Below.refl _ _) (.cells #[.int .i64 kd, .int .i64 b, .bool wr', .int .i64 v] 69)))
        have R1 := Aside0.mk (P.rbelow R.out (below_alloc (Below.refl _ _) (.cells #[.int .i64 kd, .int .i64 b, .bool wr', .int .i64 v] 69)))
        have B1 := Aside0.mk (below_alloc B.out (.cells #[.int .i64 kd, .int .i64 b, .bool wr', .int .i64 v] 69))
        have A1 := Aside0.mk (blk_new wr (.cells #[.int .i64 kd, .int .i64 b, .bool wr', .int .i64 v] 69))
        have NG := Aside0.mk (show wr.heap.size ≠ g by have := P.lt S.out; omega)
        have NQ := Aside0.mk (show wr.heap.size ≠ q by have := P.rlt R.out; omega)
        go_cut [7] (fun v7 wx => ∃ (g2 : Nat) (s2 : P), v7 = .pointer (some ⟨g2, 0, none⟩) ∧ Aside0 (s2.at_ g2 w wx) ∧ Aside0 (s2.rat q w wx) ∧ Aside0 (Below w.heap.size w wx) ∧ Aside0 (s2.fits ∧ g2 ≠ q))
        case first =>
          clear e0 e1 e2 e3
          by_cases h1 : kd = 1
          · have c1 : (kd == 1) = true := beq_iff_eq.2 h1
            clear h1
            clear h300
            go_wp2_with fail
            generalize hgen : wr.heap.size = hb0 at *
            (have zz1 : (wr.alloc (.cells #[.int .i64 kd, .int .i64 b, .bool wr', .int .i64 v] 69)).cell? ⟨hb0, 1, none⟩ = some (.int .i64 b) := (blk_cell A1.out 1).trans rfl; have zz2 : (wr.alloc (.cells #[.int .i64 kd, .int .i64 b, .bool wr', .int .i64 v] 69)).cell? ⟨hb0, 2, none⟩ = some (.bool wr') := (blk_cell A1.out 2).trans rfl; have zz3 : (wr.alloc (.cells #[.int .i64 kd, .int .i64 b, .bool wr', .int .i64 v] 69)).cell? ⟨hb0, 3, none⟩ = some (.int .i64 v) := (blk_cell A1.out 3).trans rfl)
            clear hgen
            go_region_with (first
              | (go_at_call 30; refine (issue_all (s := s) (w0 := w) b wr' v (by exact S1.out) (by exact B1.out.drew)).mono ?_; rintro e w3 ⟨rfl, hs, hb1, hk1⟩; have S3 := Aside0.mk hs; have R3 := Aside0.mk (P.rkept (by exact R1.out) hk1 (Ne.symm F.out.2)); have B3 := Aside0.mk hb1; have A3 := Aside0.mk (hk1.blk (by exact A1.out) NG.out (by simp)); clear hs hb1 hk1; have yy1 : w3.cell? ⟨hb0, 1, none⟩ = some (.int .i64 b) := (blk_cell A3.out 1).trans rfl; have yy2 : w3.cell? ⟨hb0, 2, none⟩ = some (.bool wr') := (blk_cell A3.out 2).trans rfl; have yy3 : w3.cell? ⟨hb0, 3, none⟩ = some (.int .i64 v) := (blk_cell A3.out 3).trans rfl)
              | (go_at_call 37; refine (rissue_all (s := s) (w0 := w) b wr' v (by exact R3.out) (by exact B3.out)).mono ?_; rintro e w4 ⟨rfl, hs, hb1, hk1⟩; have R4 := Aside0.mk hs; have S4 := Aside0.mk (P.kept S3.out hk1 F.out.2); have B4 := Aside0.mk hb1; clear hs hb1 hk1))
            all_goals
              go_wp2
              go_meet
              exact ⟨g, s.iss b wr' v, rfl, by assumption, by assumption, by assumption, ⟨P.iss_fits F.out.1 b wr' v, F.out.2⟩⟩
          · have c1 : (kd == 1) = false := beq_eq_false_iff_ne.2 h1
            by_cases h2 : kd = 2
            · have c2 : (kd == 2) = true := beq_iff_eq.2 h2
              clear h1 h2
              go_wp2_with fail
              refine (finish_all S1.out B1.out).mono ?_
              rintro e w3 ⟨rfl, hs, hb1, hk1⟩
              have S3 := Aside0.mk hs
              have R3 := Aside0.mk (P.rkept R1.out hk1 (Ne.symm F.out.2))
              have B3 := Aside0.mk hb1
              clear hs hb1 hk1
              go_wp2_with fail
              refine (rfinish_all R3.out B3.out).mono ?_
              rintro e w4 ⟨rfl, hs, hb1, hk1⟩
              have R4 := Aside0.mk hs
              have S4 := Aside0.mk (P.kept S3.out hk1 F.out.2)
              have B4 := Aside0.mk hb1
              clear hs hb1 hk1
              go_wp2
              go_meet
              exact ⟨g, s.fin, rfl, S4, R4, B4, ⟨P.fin_fits F.out.1, F.out.2⟩⟩
            · have c2 : (kd == 2) = false := beq_eq_false_iff_ne.2 h2
              by_cases h3 : kd = 3
              · have c3 : (kd == 3) = true := beq_iff_eq.2 h3
                clear h1 h2 h3
                go_wp2_with fail
                refine (tick_all F.out.1 S1.out B1.out).mono ?_
                rintro e w3 ⟨rfl, hs, hb1, hk1⟩
                have S3 := Aside0.mk hs
                have R3 := Aside0.mk (P.rkept R1.out hk1 (Ne.symm F.out.2))
                have B3 := Aside0.mk hb1
                clear hs hb1 hk1
                go_wp2_with fail
                refine (rtick_all F.out.1 R3.out B3.out).mono ?_
                rintro e w4 ⟨rfl, hs, hb1, hk1⟩
                have R4 := Aside0.mk hs
                have S4 := Aside0.mk (P.kept S3.out hk1 F.out.2)
                have B4 := Aside0.mk hb1
                clear hs hb1 hk1
                go_wp2
                go_meet
                exact ⟨g, s.tck, rfl, S4, R4, B4, ⟨P.tck_fits F.out.1, F.out.2⟩⟩
              · have c3 : (kd == 3) = false := beq_eq_false_iff_ne.2 h3
                by_cases h4 : kd = 4
                · have c4 : (kd == 4) = true := beq_iff_eq.2 h4
                  clear h1 h2 h3 h4
                  go_wp2_with fail
                  refine (copy_any g s.L s.T s.O s.wt s.tr s.nm s.B s.W s.V s.bz _ (P.blk S1.out)).mono ?_
                  rintro e w3 ⟨rfl, rfl⟩
                  have NX := Aside0.mk (show (wr.alloc (.cells #[.int .i64 kd, .int .i64 b, .bool wr', .int .i64 v] 69)).heap.size ≠ g ∧ (wr.alloc (.cells #[.int .i64 kd, .int .i64 b, .bool wr', .int .i64 v] 69)).heap.size ≠ q by have h8 := P.lt S1.out; have h9 := P.rlt R1.out; omega)
                  generalize hwx : wr.alloc (.cells #[.int .i64 kd, .int .i64 b, .bool wr', .int .i64 v] 69) = wx at *
                  have T3 := Aside0.mk (show s.at_ wx.heap.size w (wx.alloc (.cells #[.int .i64 s.L, .int .i64 s.T, .bool s.O, .int .i64 s.wt, .int .i64 s.tr, .int .i64 s.nm, .int .i64 s.B, .bool s.W, .int .i64 s.V, .bool s.bz] 86)) from ⟨blk_new wx _, B1.out.size⟩)
                  have S3 := Aside0.mk (P.below S1.out (below_alloc (Below.refl _ _) (.cells #[.int .i64 s.L, .int .i64 s.T, .bool s.O, .int .i64 s.wt, .int .i64 s.tr, .int .i64 s.nm, .int .i64 s.B, .bool s.W, .int .i64 s.V, .bool s.bz] 86)))
                  have R3 := Aside0.mk (P.rbelow R1.out (below_alloc (Below.refl _ _) (.cells #[.int .i64 s.L, .int .i64 s.T, .bool s.O, .int .i64 s.wt, .int .i64 s.tr, .int .i64 s.nm, .int .i64 s.B, .bool s.W, .int .i64 s.V, .bool s.bz] 86)))
                  have B3 := Aside0.mk (below_alloc B1.out (.cells #[.int .i64 s.L, .int .i64 s.T, .bool s.O, .int .i64 s.wt, .int .i64 s.tr, .int .i64 s.nm, .int .i64 s.B, .bool s.W, .int .i64 s.V, .bool s.bz] 86))
                  generalize wx.alloc (.cells #[.int .i64 s.L, .int .i64 s.T, .bool s.O, .int .i64 s.wt, .int .i64 s.tr, .int .i64 s.nm, .int .i64 s.B, .bool s.W, .int .i64 s.V, .bool s.bz] 86) = wy at *
                  generalize wx.heap.size = g2 at *
                  go_wp2_with fail
                  refine (finish_all S3.out B3.out).mono ?_
                  rintro e w4 ⟨rfl, hs, hb1, hk1⟩
                  have S4 := Aside0.mk hs
                  have R4 := Aside0.mk (P.rkept R3.out hk1 (Ne.symm F.out.2))
                  have T4 := Aside0.mk (P.kept T3.out hk1 NX.out.1)
                  have B4 := Aside0.mk hb1
                  clear hs hb1 hk1
                  go_wp2_with fail
                  refine (issue_all 99 false 0 S4.out B4.out).mono ?_
                  rintro e w5 ⟨rfl, hs, hb1, hk1⟩
                  have R5 := Aside0.mk (P.rkept R4.out hk1 (Ne.symm F.out.2))
                  have T5 := Aside0.mk (P.kept T4.out hk1 NX.out.1)
                  have B5 := Aside0.mk hb1
                  clear hs hb1 hk1
                  go_wp2
                  go_meet
                  exact ⟨g2, s, rfl, T5, R5, B5, ⟨F.out.1, NX.out.2⟩⟩
                · have c4 : (kd == 4) = false := beq_eq_false_iff_ne.2 h4
                  clear h1 h2 h3 h4
                  go_wp2
                  go_meet
                  exact ⟨g, s, rfl, S1, R1, B1, F⟩
        case rest =>
          obtain ⟨g2, s2, rfl, S5, R5, B5, F5⟩ := hcut
          go_wp2_with fail
          refine (pend S5.out B5.out).mono ?_
          rintro e w6 ⟨rfl, hs, hb1, hk1⟩
          have S5' := Aside0.mk hs.1
          have R5' := Aside0.mk (P.rkept R5.out hk1 (Ne.symm F5.out.2)).1
          have S6 := Aside0.mk (P.below hs (below_alloc (Below.refl _ _) (.cells #[.int .i64 s2.B, .bool s2.W, .int .i64 s2.V] 54)))
          have R6 := Aside0.mk (P.rbelow (P.rkept R5.out hk1 (Ne.symm F5.out.2)) (below_alloc (Below.refl _ _) (.cells #[.int .i64 s2.B, .bool s2.W, .int .i64 s2.V] 54)))
          have B6 := Aside0.mk (below_alloc hb1 (.cells #[.int .i64 s2.B, .bool s2.W, .int .i64 s2.V] 54))
          have O6 := Aside0.mk (blk_new w6 (.cells #[.int .i64 s2.B, .bool s2.W, .int .i64 s2.V] 54))
          clear hs hb1 hk1
          go_wp2_with fail
          have hlt6 := blk_lt S5'.out
          have hlt7 := blk_lt R5'.out
          generalize hgen : w6.heap.size = hb0 at *
          (have zo0 : (w6.alloc (.cells #[.int .i64 s2.B, .bool s2.W, .int .i64 s2.V] 54)).cell? ⟨hb0, 0, none⟩ = some (.int .i64 s2.B) := (blk_cell O6.out 0).trans rfl; have zo1 : (w6.alloc (.cells #[.int .i64 s2.B, .bool s2.W, .int .i64 s2.V] 54)).cell? ⟨hb0, 1, none⟩ = some (.bool s2.W) := (blk_cell O6.out 1).trans rfl; have zo2 : (w6.alloc (.cells #[.int .i64 s2.B, .bool s2.W, .int .i64 s2.V] 54)).cell? ⟨hb0, 2, none⟩ = some (.int .i64 s2.V) := (blk_cell O6.out 2).trans rfl; have zq3 : (w6.alloc (.cells #[.int .i64 s2.B, .bool s2.W, .int .i64 s2.V] 54)).cell? ⟨q, 3, none⟩ = some (.int .i64 s2.B) := (blk_cell R6.out.1 3).trans rfl; have zq4 : (w6.alloc (.cells #[.int .i64 s2.B, .bool s2.W, .int .i64 s2.V] 54)).cell? ⟨q, 4, none⟩ = some (.bool s2.W) := (blk_cell R6.out.1 4).trans rfl; have zq5 : (w6.alloc (.cells #[.int .i64 s2.B, .bool s2.W, .int .i64 s2.V] 54)).cell? ⟨q, 5, none⟩ = some (.int .i64 s2.V) := (blk_cell R6.out.1 5).trans rfl; have zq6 : (w6.alloc (.cells #[.int .i64 s2.B, .bool s2.W, .int .i64 s2.V] 54)).cell? ⟨q, 6, none⟩ = some (.bool s2.bz) := (blk_cell R6.out.1 6).trans rfl)
          have HG := Aside0.mk (show hb0 ≠ g2 by omega)
          have HQ := Aside0.mk (show hb0 ≠ q by omega)
          clear hgen hlt6 hlt7
          go_region_held3 (fun x => x.cell? ⟨hb0, 0, none⟩ = some (.int .i64 s2.B) ∧ x.cell? ⟨hb0, 1, none⟩ = some (.bool s2.W) ∧ x.cell? ⟨hb0, 2, none⟩ = some (.int .i64 s2.V) ∧
              x.cell? ⟨q, 3, none⟩ = some (.int .i64 s2.B) ∧ x.cell? ⟨q, 4, none⟩ = some (.bool s2.W) ∧ x.cell? ⟨q, 5, none⟩ = some (.int .i64 s2.V) ∧ x.cell? ⟨q, 6, none⟩ = some (.bool s2.bz) ∧ Aside0 (s2.at_ g2 w x) ∧ Aside0 (s2.rat q w x) ∧ Aside0 (Below w.heap.size w x) ∧ Aside0 (x.heap[hb0]? = some (.cells #[.int .i64 s2.B, .bool s2.W, .int .i64 s2.V] 54 (0, 0))))
            (((try go_split_ands); refine ⟨?_, ?_, ?_, ?_, ?_, ?_, ?_, ?_, ?_, ?_, ?_⟩ <;> first | (with_reducible assumption) | (with_reducible refine k_drew ?_; with_reducible assumption) | exact ⟨S6.out⟩ | exact ⟨R6.out⟩ | exact ⟨B6.out.drew⟩ | exact ⟨O6.out⟩))
            (first
              | ((go_at_call 40; refine (pinned_any (s := s2) (w0 := w) (by go_split_ands; exact Aside0.out (by assumption)) (by go_split_ands; exact Aside0.out (by assumption))).mono ?_; rintro e w7 ⟨rfl, hs, hb1, hk1⟩; have P7 := Aside0.mk hs; have Q7 := Aside0.mk (P.rkept (by go_split_ands; exact Aside0.out (by assumption)) hk1 (Ne.symm F5.out.2)); have C7 := Aside0.mk hb1; have O7 := Aside0.mk (hk1.blk (by go_split_ands; exact Aside0.out (by assumption)) HG.out (by simp)); clear hs hb1 hk1; have yo0 : w7.cell? ⟨hb0, 0, none⟩ = some (.int .i64 s2.B) := (blk_cell O7.out 0).trans rfl; have yo1 : w7.cell? ⟨hb0, 1, none⟩ = some (.bool s2.W) := (blk_cell O7.out 1).trans rfl; have yo2 : w7.cell? ⟨hb0, 2, none⟩ = some (.int .i64 s2.V) := (blk_cell O7.out 2).trans rfl; have yq3 : w7.cell? ⟨q, 3, none⟩ = some (.int .i64 s2.B) := (blk_cell Q7.out.1 3).trans rfl; have yq4 : w7.cell? ⟨q, 4, none⟩ = some (.bool s2.W) := (blk_cell Q7.out.1 4).trans rfl; have yq5 : w7.cell? ⟨q, 5, none⟩ = some (.int .i64 s2.V) := (blk_cell Q7.out.1 5).trans rfl; have yq6 : w7.cell? ⟨q, 6, none⟩ = some (.bool s2.bz) := (blk_cell Q7.out.1 6).trans rfl))
              | ((go_at_call 41; refine (rpinned (s := s2) (w0 := w) (by go_split_ands; exact Aside0.out (by assumption)) (by go_split_ands; exact Aside0.out (by assumption))).mono ?_; rintro e w7 ⟨rfl, hs, hb1, hk1⟩; have Q7 := Aside0.mk hs; have P7 := Aside0.mk (P.kept (by go_split_ands; exact Aside0.out (by assumption)) hk1 F5.out.2); have C7 := Aside0.mk hb1; have O7 := Aside0.mk (hk1.blk (by go_split_ands; exact Aside0.out (by assumption)) HQ.out (by simp)); clear hs hb1 hk1; have yo0 : w7.cell? ⟨hb0, 0, none⟩ = some (.int .i64 s2.B) := (blk_cell O7.out 0).trans rfl; have yo1 : w7.cell? ⟨hb0, 1, none⟩ = some (.bool s2.W) := (blk_cell O7.out 1).trans rfl; have yo2 : w7.cell? ⟨hb0, 2, none⟩ = some (.int .i64 s2.V) := (blk_cell O7.out 2).trans rfl; have yq3 : w7.cell? ⟨q, 3, none⟩ = some (.int .i64 s2.B) := (blk_cell Q7.out.1 3).trans rfl; have yq4 : w7.cell? ⟨q, 4, none⟩ = some (.bool s2.W) := (blk_cell Q7.out.1 4).trans rfl; have yq5 : w7.cell? ⟨q, 5, none⟩ = some (.int .i64 s2.V) := (blk_cell Q7.out.1 5).trans rfl; have yq6 : w7.cell? ⟨q, 6, none⟩ = some (.bool s2.bz) := (blk_cell Q7.out.1 6).trans rfl)))
          all_goals
            go_split_ands
            go_wp2
            go_roundw
            case rel => exact ⟨k + 1, g2, s2, rfl, by go_num, by omega, by assumption, by assumption, by assumption, F5⟩
            case measure => simp [intOf]; omega
      · have : k = xs.length := by omega
        subst this
        go_wp2
        go_ret
        exact ⟨rfl, B.out⟩
end Go.Proofs.Ytedfjadgfkbfiaa.ProcW
