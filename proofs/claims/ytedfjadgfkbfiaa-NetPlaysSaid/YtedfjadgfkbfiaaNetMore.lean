/- The net's Drop and Copy. -/
import Derived.Test.YtedfjadgfkbfiaaNetTake
import Derived.Deep.RegionWith
namespace Go.Proofs.Ytedfjadgfkbfiaa.NetW
open Go.RowKit Go.Proofs.YtedfjadgfkbfiaaW.PrintWords Go.Proofs.Ytedfjadgfkbfiaa.Opens
set_option linter.unusedVariables false
set_option linter.unusedSimpArgs false
attribute [local go_sem] nil27 World.cell?_alloc_some

set_option maxHeartbeats 4000000 in
set_option maxRecDepth 100000 in
theorem drop_out {rm : Int} {xs : List LetR} {v : Value} {g : Nat} {i : Int} {w0 w : World} (hN : NetAt 80 rm xs v g w0 w) (hi : inside xs i = false) :
    Calls Try.prog 21 #[.pointer (some ⟨g, 0, none⟩), .int .i64 i] w (NPost 80 (.bool false) rm xs v g w0 w) := by
  obtain ⟨A, c, rfl, hr, hc, hn⟩ := OwnL.row hN.own
  have N := Aside0.mk hN
  have hi' : decide (0 ≤ i ∧ i < (xs.length : Int)) = false := hi
  clear hN hr hi
  go_enter Try.func21, Try.ntmps21
  go_wp2_with fail
  refine (is_any g rm A xs.length c i _ N.out.blk).mono ?_
  rintro e w1 ⟨rfl, rfl⟩
  rw [hi']
  go_wp2
  go_ret
  exact ⟨_, rfl, N.out, Chg.refl _ _ _, .inl rfl⟩

set_option maxHeartbeats 4000000 in
set_option maxRecDepth 100000 in
theorem drop_no {rm : Int} {xs : List LetR} {v : Value} {g i : Nat} {w0 w : World} (hN : NetAt 80 rm xs v g w0 w) (hi : i < xs.length) (ha : ask (xs.getD i l0) = false) :
    Calls Try.prog 21 #[.pointer (some ⟨g, 0, none⟩), .int .i64 i] w (NPost 80 (.bool false) rm xs v g w0 w) := by
  obtain ⟨g', cap, rfl, hc63, hcap, hlt', hcell⟩ := own_some hN.own hi
  generalize hl : xs.getD i l0 = l at *
  obtain ⟨k, f, t, b, s, wh, wr, c, o, h, d⟩ := l
  clear hl
  simp only [letCells] at hcell
  have e0 : w.cell? ⟨g', i * 11, none⟩ = some (.int .i64 k) := by simpa [Addr.add] using hcell 0 (by omega)
  have e1 : w.cell? ⟨g', i * 11 + 1, none⟩ = some (.int .i64 f) := by simpa [Addr.add] using hcell 1 (by omega)
  have e2 : w.cell? ⟨g', i * 11 + 2, none⟩ = some (.int .i64 t) := by simpa [Addr.add] using hcell 2 (by omega)
  have e3 : w.cell? ⟨g', i * 11 + 3, none⟩ = some (.int .i64 b) := by simpa [Addr.add] using hcell 3 (by omega)
  have e4 : w.cell? ⟨g', i * 11 + 4, none⟩ = some (.int .i64 s) := by simpa [Addr.add] using hcell 4 (by omega)
  have e5 : w.cell? ⟨g', i * 11 + 5, none⟩ = some (.int .i64 wh) := by simpa [Addr.add] using hcell 5 (by omega)
  have e6 : w.cell? ⟨g', i * 11 + 6, none⟩ = some (.bool wr) := by simpa [Addr.add] using hcell 6 (by omega)
  have e7 : w.cell? ⟨g', i * 11 + 7, none⟩ = some (.int .i64 c) := by simpa [Addr.add] using hcell 7 (by omega)
  have e8 : w.cell? ⟨g', i * 11 + 8, none⟩ = some (.bool o) := by simpa [Addr.add] using hcell 8 (by omega)
  have e9 : w.cell? ⟨g', i * 11 + 9, none⟩ = some (.bool h) := by simpa [Addr.add] using hcell 9 (by omega)
  have e10 : w.cell? ⟨g', i * 11 + 10, none⟩ = some (.int .i64 d) := by simpa [Addr.add] using hcell 10 (by omega)
  clear hcell
  have hk : (k == 2) = false := ha
  clear ha
  have c1 : w.cell? ⟨g, 1, none⟩ = some (.slice (some ⟨g', 0, none⟩) xs.length cap) := (blk_cell hN.blk 1).trans rfl
  have N := Aside0.mk hN
  have hi' : decide (0 ≤ (i : Int) ∧ (i : Int) < (xs.length : Int)) = true := by simp [hi]
  have q0 : (0 : Int) ≤ (i : Int) := by omega
  have q1 : (i : Int) < (xs.length : Int) := by omega
  clear hN
  go_enter Try.func21, Try.ntmps21
  go_wp2_with fail
  refine (is_any g rm _ xs.length cap i _ N.out.blk).mono ?_
  rintro e w1 ⟨rfl, rfl⟩
  rw [hi']
  go_wp2_with fail
  refine (drops_any k f t b s wh c d wr o h _).mono ?_
  rintro e w1 ⟨rfl, hb⟩
  rw [hk]
  go_wp2
  go_ret
  exact ⟨_, rfl, N.out.below hb, Chg.of_below _ _ hb, .inl rfl⟩

set_option maxHeartbeats 4000000 in
set_option maxRecDepth 100000 in
theorem drop_yes {rm : Int} {xs : List LetR} {v : Value} {g i : Nat} {w0 w : World} (hN : NetAt 80 rm xs v g w0 w) (hi : i < xs.length) (ha : ask (xs.getD i l0) = true) :
    Calls Try.prog 21 #[.pointer (some ⟨g, 0, none⟩), .int .i64 i] w (NPost 80 (.bool true) rm (xs.eraseIdx i) v g w0 w) := by
  obtain ⟨g', cap, rfl, hc63, hcap, hlt', hcell⟩ := own_some hN.own hi
  generalize hl : xs.getD i l0 = l at *
  obtain ⟨k, f, t, b, s, wh, wr, c, o, h, d⟩ := l
  clear hl
  simp only [letCells] at hcell
  have e0 : w.cell? ⟨g', i * 11, none⟩ = some (.int .i64 k) := by simpa [Addr.add] using hcell 0 (by omega)
  have e1 : w.cell? ⟨g', i * 11 + 1, none⟩ = some (.int .i64 f) := by simpa [Addr.add] using hcell 1 (by omega)
  have e2 : w.cell? ⟨g', i * 11 + 2, none⟩ = some (.int .i64 t) := by simpa [Addr.add] using hcell 2 (by omega)
  have e3 : w.cell? ⟨g', i * 11 + 3, none⟩ = some (.int .i64 b) := by simpa [Addr.add] using hcell 3 (by omega)
  have e4 : w.cell? ⟨g', i * 11 + 4, none⟩ = some (.int .i64 s) := by simpa [Addr.add] using hcell 4 (by omega)
  have e5 : w.cell? ⟨g', i * 11 + 5, none⟩ = some (.int .i64 wh) := by simpa [Addr.add] using hcell 5 (by omega)
  have e6 : w.cell? ⟨g', i * 11 + 6, none⟩ = some (.bool wr) := by simpa [Addr.add] using hcell 6 (by omega)
  have e7 : w.cell? ⟨g', i * 11 + 7, none⟩ = some (.int .i64 c) := by simpa [Addr.add] using hcell 7 (by omega)
  have e8 : w.cell? ⟨g', i * 11 + 8, none⟩ = some (.bool o) := by simpa [Addr.add] using hcell 8 (by omega)
  have e9 : w.cell? ⟨g', i * 11 + 9, none⟩ = some (.bool h) := by simpa [Addr.add] using hcell 9 (by omega)
  have e10 : w.cell? ⟨g', i * 11 + 10, none⟩ = some (.int .i64 d) := by simpa [Addr.add] using hcell 10 (by omega)
  clear hcell
  have hk : (k == 2) = true := ha
  clear ha
  have c1 : w.cell? ⟨g, 1, none⟩ = some (.slice (some ⟨g', 0, none⟩) xs.length cap) := (blk_cell hN.blk 1).trans rfl
  obtain ⟨hr1, hr2, hr3⟩ := hN.room
  have N := Aside0.mk hN
  have hi' : decide (0 ≤ (i : Int) ∧ (i : Int) < (xs.length : Int)) = true := by simp [hi]
  have q0 : (0 : Int) ≤ (i : Int) := by omega
  have q1 : (i : Int) < (xs.length : Int) := by omega
  have q2 : wrap64 ((i : Int) + 1) = (i : Int) + 1 := by unfold wrap64; omega
  have hne := Aside0.mk (show g ≠ g' from fun e => hN.ne (by simp [Value.ownBlock, e]))
  clear hN
  go_enter Try.func21, Try.ntmps21
  go_wp2_with fail
  refine (is_any g rm _ xs.length cap i _ N.out.blk).mono ?_
  rintro e w1 ⟨rfl, rfl⟩
  rw [hi']
  go_wp2_with fail
  refine (drops_any k f t b s wh c d wr o h _).mono ?_
  rintro e w2 ⟨rfl, hb⟩
  rw [hk]
  have N2 := Aside0.mk (N.out.below hb)
  have C2 := Aside0.mk (Chg.of_below g (some g') hb)
  have c2 : w2.cell? ⟨g, 1, none⟩ = some (.slice (some ⟨g', 0, none⟩) xs.length cap) := (blk_cell N2.out.blk 1).trans rfl
  clear hb
  go_wp2_with fail
  refine (delete_any N2.out.own hi).mono ?_
  rintro e w3 ⟨rfl, hO, hg⟩
  have O3 := Aside0.mk (show OwnL w0.heap.size (.slice (some ⟨g', 0, none⟩) (xs.length - 1) cap) (xs.eraseIdx i) w3 from hO)
  have H3 := Aside0.mk hg
  have B3 := Aside0.mk (blk_grown N2.out.blk hg (by have := hne.out; simpa using this))
  clear hO hg
  have y1 : w3.cell? ⟨g, 1, none⟩ = some (.slice (some ⟨g', 0, none⟩) xs.length cap) := (blk_cell B3.out 1).trans rfl
  have z1 : w3.frozen? ⟨g, 1, none⟩ = false := blk_frozen B3.out 1
  go_wp2
  go_ret
  have C3 := C2.out.trans (Chg.of_grown g H3.out) (.inl rfl)
  have ST := stored N.out O3.out C3 B3.out (.inl rfl) (by rw [List.length_eraseIdx_of_lt hi]; omega)
  exact ⟨_, rfl, ST.1, ST.2, .inl rfl⟩

theorem inside_nat {xs : List LetR} {i : Int} (h : inside xs i = true) : ∃ n : Nat, i = n ∧ n < xs.length := by
  simp [inside] at h
  exact ⟨i.toNat, by omega, by omega⟩
theorem inside_of {xs : List LetR} {n : Nat} (h : n < xs.length) : inside xs n = true := by simp [inside, h]
theorem drop_any {rm : Int} {xs : List LetR} {v : Value} {g : Nat} (i : Int) {w0 w : World} (hN : NetAt 80 rm xs v g w0 w) :
    Calls Try.prog 21 #[.pointer (some ⟨g, 0, none⟩), .int .i64 i] w (NPost 80 (.bool (loses xs i)) rm (dropped xs i) v g w0 w) := by
  cases h : inside xs i with
  | false =>
    have h1 : loses xs i = false := by simp [loses, h]
    rw [show dropped xs i = xs by simp [dropped, h1], h1]
    exact drop_out hN h
  | true =>
    obtain ⟨n, rfl, hn⟩ := inside_nat h
    cases h2 : ask (xs.getD n l0) with
    | false =>
      have h1 : loses xs n = false := by simp only [loses, h, Int.toNat_natCast, h2]; rfl
      rw [show dropped xs n = xs by simp [dropped, h1], h1]
      exact drop_no hN hn h2
    | true =>
      have h1 : loses xs n = true := by simp only [loses, h, Int.toNat_natCast, h2]; rfl
      rw [show dropped xs n = xs.eraseIdx n by simp [dropped, h1], h1]
      exact drop_yes hN hn h2
theorem take_any {rm : Int} {xs : List LetR} {v : Value} {g : Nat} (i : Int) {w0 w : World} (hN : NetAt 80 rm xs v g w0 w) :
    Calls Try.prog 20 #[.pointer (some ⟨g, 0, none⟩), .int .i64 i] w (NPost 80 (.tuple #[letV (got xs i), .bool (inside xs i)]) rm (taken xs i) v g w0 w) := by
  cases h : inside xs i with
  | false =>
    rw [show taken xs i = xs by simp [taken, h], show got xs i = l0 by simp [got, h]]
    exact take_no hN h
  | true =>
    obtain ⟨n, rfl, hn⟩ := inside_nat h
    rw [show taken xs n = xs.eraseIdx n by simp [taken, h], show got xs n = xs.getD n l0 by simp [got, h]]
    exact take_yes hN hn
theorem send_any {rm : Int} {xs ys : List LetR} {v : Value} {g c2 : Nat} {A2 : Option Addr} {w0 w : World} (hN : NetAt 80 rm xs v g w0 w) (hl : ys.length ≤ 9223372036854775807) (hR : RowL w A2 ys) :
    Calls Try.prog 18 #[.pointer (some ⟨g, 0, none⟩), .slice A2 ys.length c2] w (NPost 80 (.bool (goes rm xs ys)) rm (sent rm xs ys) v g w0 w) := by
  cases h : goes rm xs ys with
  | false =>
    rw [show sent rm xs ys = xs by simp [sent, h]]
    exact send_no hN hl (by simpa [goes] using h)
  | true =>
    rw [show sent rm xs ys = xs ++ ys by simp [sent, h]]
    exact send_yes hN hR (by simpa [goes] using h)

set_option maxHeartbeats 4000000 in
set_option maxRecDepth 100000 in
theorem copy_any {rm : Int} {xs : List LetR} {v : Value} {g : Nat} {w0 w : World} (hN : NetAt 80 rm xs v g w0 w) :
    Calls Try.prog 26 #[.pointer (some ⟨g, 0, none⟩)] w fun e w' => ∃ g2 u, e = .returned (.pointer (some ⟨g2, 0, none⟩)) ∧ NetAt 80 rm xs u g2 w0 w' ∧ Below w.heap.size w w' ∧ w.heap.size ≤ g2 ∧ Fresh w.heap.size u := by
  have c0 : w.cell? ⟨g, 0, none⟩ = some (.int .i64 rm) := (blk_cell hN.blk 0).trans rfl
  have N := Aside0.mk hN
  clear hN
  go_enter Try.func26, Try.ntmps26
  go_wp2_with fail
  go_region_with (go_at_call 17; refine (list_any (by exact N.out.below (Below.drew (Below.refl _ _)))).mono ?_; rintro e w1 ⟨u, rfl, hO, hb⟩; obtain ⟨A1, n1, k1, rfl⟩ : ∃ A n c, u = .slice A n c := (by obtain ⟨A, c, h, _⟩ := OwnL.row hO; exact ⟨_, _, _, h⟩); have O1 := Aside0.mk hO; have B1 := Aside0.mk hb; have Y1 := Aside0.mk (blk_below (w := w.drew) N.out.blk (w1 := w1) hb); clear hO hb; have y0 : w1.cell? ⟨g, 0, none⟩ = some (.int .i64 rm) := (blk_cell Y1.out 0).trans rfl)
  all_goals
    go_wp2
    go_ret
    have hb : Below w.heap.size w w1 := (Below.drew (Below.refl _ _)).trans B1.out
    refine ⟨_, _, rfl, ⟨blk_new w1 _, ?_, ?_, N.out.room, ?_, by decide⟩, below_alloc hb _, hb.size, ?_⟩
    · exact OwnL.base (OwnL.below O1.out (below_alloc (Below.refl _ _) _)) N.out.bel.size
    · have := hb.size; have := N.out.bel.size; omega
    · exact below_alloc (N.out.bel.trans (hb.mono N.out.bel.size)) _
    · exact OwnL.fresh O1.out

end Go.Proofs.Ytedfjadgfkbfiaa.NetW
