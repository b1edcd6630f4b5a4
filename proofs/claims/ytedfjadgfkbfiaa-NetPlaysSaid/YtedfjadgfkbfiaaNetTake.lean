/- The net's Take. -/
import Derived.Test.YtedfjadgfkbfiaaNetWalks
namespace Go.Proofs.Ytedfjadgfkbfiaa.NetW
open Go.RowKit Go.Proofs.YtedfjadgfkbfiaaW.PrintWords Go.Proofs.Ytedfjadgfkbfiaa.Opens
set_option linter.unusedVariables false
set_option linter.unusedSimpArgs false
attribute [local go_sem] nil27 World.cell?_alloc_some

theorem own_some {B : Nat} {v : Value} {xs : List LetR} {W : World} {i : Nat} (h : OwnL B v xs W) (hi : i < xs.length) : ∃ g' cap, v = .slice (some ⟨g', 0, none⟩) xs.length cap ∧ cap ≤ 9223372036854775807 ∧ xs.length ≤ cap ∧ g' < W.heap.size ∧ ∀ j, j < 11 → W.cell? ((⟨g', i * 11, none⟩ : Addr).add j) = (letCells (xs.getD i l0))[j]? := by
  rcases h.2 with ⟨_, hn⟩ | ⟨g', cap, cur, rfl, _, hg, hnc, hm, _⟩
  · omega
  · obtain ⟨A, c, e, hr, _⟩ := OwnL.row h
    simp at e
    obtain ⟨rfl, rfl⟩ := e
    obtain ⟨ad, e, hc⟩ := hr i hi
    simp at e
    subst e
    refine ⟨g', cap, rfl, by unfold maxLen at hm; omega, hnc, blk_lt hg, fun j hj => ?_⟩
    have h0 := hc j hj
    rw [← Go.Deep.add_add, show (⟨g', 0, none⟩ : Addr).add (i * 11) = ⟨g', i * 11, none⟩ from by rw [Addr.add_lit]; simp] at h0
    exact h0

set_option maxHeartbeats 4000000 in
set_option maxRecDepth 100000 in
theorem take_yes {rm : Int} {xs : List LetR} {v : Value} {g i : Nat} {w0 w : World} (hN : NetAt 80 rm xs v g w0 w) (hi : i < xs.length) :
    Calls Try.prog 20 #[.pointer (some ⟨g, 0, none⟩), .int .i64 i] w (NPost 80 (.tuple #[letV (xs.getD i l0), .bool true]) rm (xs.eraseIdx i) v g w0 w) := by
  obtain ⟨g', cap, rfl, hc63, hcap, hlt', hcell⟩ := own_some hN.own hi
  generalize hl : xs.getD i l0 = l at *
  obtain ⟨k, f, t, b, s, wh, wr, c, o, h, d⟩ := l
  clear hl
  simp only [letCells] at hcell
  have e0 : w.cell? ⟨g', i * 11, none⟩ = some (.int .i64 k) := by simpa [Addr.add] using hcell 0 (by omega)
  have e1 : w.cell? ⟨g', i * 11 + 1, none⟩ = some (.int .i64 f) := by simpa [Addr.add] using hcell 1 (by omega)
  have e2 : w.cell? ⟨g', i * 11 + 2, none⟩ = some (.int .i64 t) := by simpa [Addr.add] using hcell 2 (by omega)
  have e3 : w.cell? ⟨g', i * 11 + 3, none⟩ = some (.int .i64 b) := by simpa [Addr.add] using hcell 3 (by omega)
  have e4 : w.cell? ⟨g', i * 11 + 4, none⟩ = some (.int .i64 s) := by simpa [Addr.add] using hcell 4 (by omega)
  have e5 : w.cell? ⟨g', i * 11 + 5, none⟩ = some (.int .i64 wh) := by simpa [Addr.add] using hcell 5 (by omega)
  have e6 : w.cell? ⟨g', i * 11 + 6, none⟩ = some (.bool wr) := by simpa [Addr.add] using hcell 6 (by omega)
  have e7 : w.cell? ⟨g', i * 11 + 7, none⟩ = some (.int .i64 c) := by simpa [Addr.add] using hcell 7 (by omega)
  have e8 : w.cell? ⟨g', i * 11 + 8, none⟩ = some (.bool o) := by simpa [Addr.add] using hcell 8 (by omega)
  have e9 : w.cell? ⟨g', i * 11 + 9, none⟩ = some (.bool h) := by simpa [Addr.add] using hcell 9 (by omega)
  have e10 : w.cell? ⟨g', i * 11 + 10, none⟩ = some (.int .i64 d) := by simpa [Addr.add] using hcell 10 (by omega)
  clear hcell
  have c1 : w.cell? ⟨g, 1, none⟩ = some (.slice (some ⟨g', 0, none⟩) xs.length cap) := (blk_cell hN.blk 1).trans rfl
  obtain ⟨hr1, hr2, hr3⟩ := hN.room
  have N := Aside0.mk hN
  have N1 := Aside0.mk (hN.below (below_alloc (Below.refl _ _) (.cells #[.int .i64 0, .int .i64 0, .int .i64 0, .int .i64 0, .int .i64 0, .int .i64 0, .bool false, .int .i64 0, .bool false, .bool false, .int .i64 0] 36)))
  have hlt := Aside0.mk hN.lt
  have hN' := Aside0.mk hN.ne
  have hi' : decide (0 ≤ (i : Int) ∧ (i : Int) < (xs.length : Int)) = true := by simp [hi]
  have q0 : (0 : Int) ≤ (i : Int) := by omega
  have q1 : (i : Int) < (xs.length : Int) := by omega
  have q2 : wrap64 ((i : Int) + 1) = (i : Int) + 1 := by unfold wrap64; omega
  clear hN
  go_enter Try.func20, Try.ntmps20
  go_wp2_with fail
  refine (is_any g rm _ xs.length cap i _ N1.out.blk).mono ?_
  rintro e w1 ⟨rfl, rfl⟩
  rw [hi']
  go_wp2_with fail
  have N2 := Aside0.mk (N1.out.below (below_alloc (Below.refl _ _) (.cells #[.int .i64 k, .int .i64 f, .int .i64 t, .int .i64 b, .int .i64 s, .int .i64 wh, .bool wr, .int .i64 c, .bool o, .bool h, .int .i64 d] 36)))
  have X4 := Aside0.mk (blk_alloc (blk_new w (.cells #[.int .i64 0, .int .i64 0, .int .i64 0, .int .i64 0, .int .i64 0, .int .i64 0, .bool false, .int .i64 0, .bool false, .bool false, .int .i64 0] 36)) (.cells #[.int .i64 k, .int .i64 f, .int .i64 t, .int .i64 b, .int .i64 s, .int .i64 wh, .bool wr, .int .i64 c, .bool o, .bool h, .int .i64 d] 36))
  have X6 := Aside0.mk (blk_new (w.alloc (.cells #[.int .i64 0, .int .i64 0, .int .i64 0, .int .i64 0, .int .i64 0, .int .i64 0, .bool false, .int .i64 0, .bool false, .bool false, .int .i64 0] 36)) (.cells #[.int .i64 k, .int .i64 f, .int .i64 t, .int .i64 b, .int .i64 s, .int .i64 wh, .bool wr, .int .i64 c, .bool o, .bool h, .int .i64 d] 36))
  have hne := Aside0.mk (show g ≠ g' from fun e => hN'.out (by simp [Value.ownBlock, e]))
  have hls := Aside0.mk hlt'
  refine (delete_any N2.out.own hi).mono ?_
  rintro e w3 ⟨rfl, hO, hg⟩
  have O3 := Aside0.mk hO
  have O3' := Aside0.mk (show OwnL w0.heap.size (.slice (some ⟨g', 0, none⟩) (xs.length - 1) cap) (xs.eraseIdx i) w3 from hO)
  have H3 := Aside0.mk hg
  have B3 := Aside0.mk (blk_grown N2.out.blk hg (by have := hne.out; simpa using this))
  have Y4 := Aside0.mk (blk_grown X4.out hg (by have := hls.out; simp; omega))
  have Y6 := Aside0.mk (blk_grown X6.out hg (by have := hls.out; simp; omega))
  clear hO hg hlt'
  have y1 : w3.cell? ⟨g, 1, none⟩ = some (.slice (some ⟨g', 0, none⟩) xs.length cap) := (blk_cell B3.out 1).trans rfl
  have z1 : w3.frozen? ⟨g, 1, none⟩ = false := blk_frozen B3.out 1
  go_upto_region 5 with fail
  have C3 := Aside0.mk ((Chg.of_below g (some g') (below_alloc (below_alloc (Below.refl _ w) (.cells #[.int .i64 0, .int .i64 0, .int .i64 0, .int .i64 0, .int .i64 0, .int .i64 0, .bool false, .int .i64 0, .bool false, .bool false, .int .i64 0] 36)) (.cells #[.int .i64 k, .int .i64 f, .int .i64 t, .int .i64 b, .int .i64 s, .int .i64 wh, .bool wr, .int .i64 c, .bool o, .bool h, .int .i64 d] 36))).trans (Chg.of_grown g H3.out) (.inl rfl))
  have ST := Aside0.mk (stored N.out O3'.out C3.out B3.out (.inl rfl) (by rw [List.length_eraseIdx_of_lt hi]; omega))
  have U4 := Aside0.mk (blk_far Y4.out (p := ⟨g, 1, none⟩) (by have := hlt.out; simp; omega) (.slice (some ⟨g', 0, none⟩) (xs.length - 1) cap))
  have U6 := Aside0.mk (show (w3.setCell ⟨g, 1, none⟩ (.slice (some ⟨g', 0, none⟩) (xs.length - 1) cap)).heap[w.heap.size + 1]? = some (.cells #[.int .i64 k, .int .i64 f, .int .i64 t, .int .i64 b, .int .i64 s, .int .i64 wh, .bool wr, .int .i64 c, .bool o, .bool h, .int .i64 d] 36) from by have := blk_far Y6.out (p := ⟨g, 1, none⟩) (by have := hlt.out; simp; omega) (.slice (some ⟨g', 0, none⟩) (xs.length - 1) cap); simpa using this)
  clear Y4 Y6 X4 X6 y1 z1 O3 B3 N1 N2 c1 e0 e1 e2 e3 e4 e5 e6 e7 e8 e9 e10
  generalize w3.setCell ⟨g, 1, none⟩ (.slice (some ⟨g', 0, none⟩) (xs.length - 1) cap) = w4 at *
  have f0 : w4.cell? ⟨w.heap.size + 1, 0, none⟩ = some (.int .i64 k) := (blk_cell U6.out 0).trans rfl
  have f1 : w4.cell? ⟨w.heap.size + 1, 1, none⟩ = some (.int .i64 f) := (blk_cell U6.out 1).trans rfl
  have f2 : w4.cell? ⟨w.heap.size + 1, 2, none⟩ = some (.int .i64 t) := (blk_cell U6.out 2).trans rfl
  have f3 : w4.cell? ⟨w.heap.size + 1, 3, none⟩ = some (.int .i64 b) := (blk_cell U6.out 3).trans rfl
  have f4 : w4.cell? ⟨w.heap.size + 1, 4, none⟩ = some (.int .i64 s) := (blk_cell U6.out 4).trans rfl
  have f5 : w4.cell? ⟨w.heap.size + 1, 5, none⟩ = some (.int .i64 wh) := (blk_cell U6.out 5).trans rfl
  have f6 : w4.cell? ⟨w.heap.size + 1, 6, none⟩ = some (.bool wr) := (blk_cell U6.out 6).trans rfl
  have f7 : w4.cell? ⟨w.heap.size + 1, 7, none⟩ = some (.int .i64 c) := (blk_cell U6.out 7).trans rfl
  have f8 : w4.cell? ⟨w.heap.size + 1, 8, none⟩ = some (.bool o) := (blk_cell U6.out 8).trans rfl
  have f9 : w4.cell? ⟨w.heap.size + 1, 9, none⟩ = some (.bool h) := (blk_cell U6.out 9).trans rfl
  have f10 : w4.cell? ⟨w.heap.size + 1, 10, none⟩ = some (.int .i64 d) := (blk_cell U6.out 10).trans rfl
  have p0 : w4.cell? ⟨w.heap.size, 0, none⟩ = some (.int .i64 0) := (blk_cell U4.out 0).trans rfl
  have r0 : w4.frozen? ⟨w.heap.size, 0, none⟩ = false := blk_frozen U4.out 0
  have p1 : w4.cell? ⟨w.heap.size, 1, none⟩ = some (.int .i64 0) := (blk_cell U4.out 1).trans rfl
  have r1 : w4.frozen? ⟨w.heap.size, 1, none⟩ = false := blk_frozen U4.out 1
  have p2 : w4.cell? ⟨w.heap.size, 2, none⟩ = some (.int .i64 0) := (blk_cell U4.out 2).trans rfl
  have r2 : w4.frozen? ⟨w.heap.size, 2, none⟩ = false := blk_frozen U4.out 2
  have p3 : w4.cell? ⟨w.heap.size, 3, none⟩ = some (.int .i64 0) := (blk_cell U4.out 3).trans rfl
  have r3 : w4.frozen? ⟨w.heap.size, 3, none⟩ = false := blk_frozen U4.out 3
  have p4 : w4.cell? ⟨w.heap.size, 4, none⟩ = some (.int .i64 0) := (blk_cell U4.out 4).trans rfl
  have r4 : w4.frozen? ⟨w.heap.size, 4, none⟩ = false := blk_frozen U4.out 4
  have p5 : w4.cell? ⟨w.heap.size, 5, none⟩ = some (.int .i64 0) := (blk_cell U4.out 5).trans rfl
  have r5 : w4.frozen? ⟨w.heap.size, 5, none⟩ = false := blk_frozen U4.out 5
  have p6 : w4.cell? ⟨w.heap.size, 6, none⟩ = some (.bool false) := (blk_cell U4.out 6).trans rfl
  have r6 : w4.frozen? ⟨w.heap.size, 6, none⟩ = false := blk_frozen U4.out 6
  have p7 : w4.cell? ⟨w.heap.size, 7, none⟩ = some (.int .i64 0) := (blk_cell U4.out 7).trans rfl
  have r7 : w4.frozen? ⟨w.heap.size, 7, none⟩ = false := blk_frozen U4.out 7
  have p8 : w4.cell? ⟨w.heap.size, 8, none⟩ = some (.bool false) := (blk_cell U4.out 8).trans rfl
  have r8 : w4.frozen? ⟨w.heap.size, 8, none⟩ = false := blk_frozen U4.out 8
  have p9 : w4.cell? ⟨w.heap.size, 9, none⟩ = some (.bool false) := (blk_cell U4.out 9).trans rfl
  have r9 : w4.frozen? ⟨w.heap.size, 9, none⟩ = false := blk_frozen U4.out 9
  have p10 : w4.cell? ⟨w.heap.size, 10, none⟩ = some (.int .i64 0) := (blk_cell U4.out 10).trans rfl
  have r10 : w4.frozen? ⟨w.heap.size, 10, none⟩ = false := blk_frozen U4.out 10
  go_wp2
  have CH := Aside0.mk (show Chg w.heap.size none w4 ((((((((((((w4).setCell ⟨w.heap.size, 0, none⟩ (.int .i64 k)).setCell ⟨w.heap.size, 1, none⟩ (.int .i64 f)).setCell ⟨w.heap.size, 2, none⟩ (.int .i64 t)).setCell ⟨w.heap.size, 3, none⟩ (.int .i64 b)).setCell ⟨w.heap.size, 4, none⟩ (.int .i64 s)).setCell ⟨w.heap.size, 5, none⟩ (.int .i64 wh)).setCell ⟨w.heap.size, 6, none⟩ (.bool wr)).setCell ⟨w.heap.size, 7, none⟩ (.int .i64 c)).setCell ⟨w.heap.size, 8, none⟩ (.bool o)).setCell ⟨w.heap.size, 9, none⟩ (.bool h)).setCell ⟨w.heap.size, 10, none⟩ (.int .i64 d)) from ((((((((((((Chg.refl _ _ _).set 0 _).set 1 _).set 2 _).set 3 _).set 4 _).set 5 _).set 6 _).set 7 _).set 8 _).set 9 _).set 10 _))
  have CG := Aside0.mk (show Chg g (some g') w ((((((((((((w4).setCell ⟨w.heap.size, 0, none⟩ (.int .i64 k)).setCell ⟨w.heap.size, 1, none⟩ (.int .i64 f)).setCell ⟨w.heap.size, 2, none⟩ (.int .i64 t)).setCell ⟨w.heap.size, 3, none⟩ (.int .i64 b)).setCell ⟨w.heap.size, 4, none⟩ (.int .i64 s)).setCell ⟨w.heap.size, 5, none⟩ (.int .i64 wh)).setCell ⟨w.heap.size, 6, none⟩ (.bool wr)).setCell ⟨w.heap.size, 7, none⟩ (.int .i64 c)).setCell ⟨w.heap.size, 8, none⟩ (.bool o)).setCell ⟨w.heap.size, 9, none⟩ (.bool h)).setCell ⟨w.heap.size, 10, none⟩ (.int .i64 d)) by
    have CG0 : Chg g (some g') w w4 := ST.out.2
    exact (Chg.setNew (Chg.setNew (Chg.setNew (Chg.setNew (Chg.setNew (Chg.setNew (Chg.setNew (Chg.setNew (Chg.setNew (Chg.setNew (Chg.setNew CG0 (Nat.le_refl _) 0 _) (Nat.le_refl _) 1 _) (Nat.le_refl _) 2 _) (Nat.le_refl _) 3 _) (Nat.le_refl _) 4 _) (Nat.le_refl _) 5 _) (Nat.le_refl _) 6 _) (Nat.le_refl _) 7 _) (Nat.le_refl _) 8 _) (Nat.le_refl _) 9 _) (Nat.le_refl _) 10 _))
  have H5 : ((((((((((((w4).setCell ⟨w.heap.size, 0, none⟩ (.int .i64 k)).setCell ⟨w.heap.size, 1, none⟩ (.int .i64 f)).setCell ⟨w.heap.size, 2, none⟩ (.int .i64 t)).setCell ⟨w.heap.size, 3, none⟩ (.int .i64 b)).setCell ⟨w.heap.size, 4, none⟩ (.int .i64 s)).setCell ⟨w.heap.size, 5, none⟩ (.int .i64 wh)).setCell ⟨w.heap.size, 6, none⟩ (.bool wr)).setCell ⟨w.heap.size, 7, none⟩ (.int .i64 c)).setCell ⟨w.heap.size, 8, none⟩ (.bool o)).setCell ⟨w.heap.size, 9, none⟩ (.bool h)).setCell ⟨w.heap.size, 10, none⟩ (.int .i64 d)).heap[w.heap.size]? = some (.cells #[.int .i64 k, .int .i64 f, .int .i64 t, .int .i64 b, .int .i64 s, .int .i64 wh, .bool wr, .int .i64 c, .bool o, .bool h, .int .i64 d] 36) := by have := (blk_set (blk_set (blk_set (blk_set (blk_set (blk_set (blk_set (blk_set (blk_set (blk_set (blk_set U4.out 0 (.int .i64 k)) 1 (.int .i64 f)) 2 (.int .i64 t)) 3 (.int .i64 b)) 4 (.int .i64 s)) 5 (.int .i64 wh)) 6 (.bool wr)) 7 (.int .i64 c)) 8 (.bool o)) 9 (.bool h)) 10 (.int .i64 d)); simpa using this
  clear f0 p0 r0 f1 p1 r1 f2 p2 r2 f3 p3 r3 f4 p4 r4 f5 p5 r5 f6 p6 r6 f7 p7 r7 f8 p8 r8 f9 p9 r9 f10 p10 r10
  generalize (((((((((((w4).setCell ⟨w.heap.size, 0, none⟩ (.int .i64 k)).setCell ⟨w.heap.size, 1, none⟩ (.int .i64 f)).setCell ⟨w.heap.size, 2, none⟩ (.int .i64 t)).setCell ⟨w.heap.size, 3, none⟩ (.int .i64 b)).setCell ⟨w.heap.size, 4, none⟩ (.int .i64 s)).setCell ⟨w.heap.size, 5, none⟩ (.int .i64 wh)).setCell ⟨w.heap.size, 6, none⟩ (.bool wr)).setCell ⟨w.heap.size, 7, none⟩ (.int .i64 c)).setCell ⟨w.heap.size, 8, none⟩ (.bool o)).setCell ⟨w.heap.size, 9, none⟩ (.bool h)).setCell ⟨w.heap.size, 10, none⟩ (.int .i64 d) = w5 at *
  have v0 : w5.cell? ⟨w.heap.size, 0, none⟩ = some (.int .i64 k) := (blk_cell H5 0).trans rfl
  have v1 : w5.cell? ⟨w.heap.size, 1, none⟩ = some (.int .i64 f) := (blk_cell H5 1).trans rfl
  have v2 : w5.cell? ⟨w.heap.size, 2, none⟩ = some (.int .i64 t) := (blk_cell H5 2).trans rfl
  have v3 : w5.cell? ⟨w.heap.size, 3, none⟩ = some (.int .i64 b) := (blk_cell H5 3).trans rfl
  have v4 : w5.cell? ⟨w.heap.size, 4, none⟩ = some (.int .i64 s) := (blk_cell H5 4).trans rfl
  have v5 : w5.cell? ⟨w.heap.size, 5, none⟩ = some (.int .i64 wh) := (blk_cell H5 5).trans rfl
  have v6 : w5.cell? ⟨w.heap.size, 6, none⟩ = some (.bool wr) := (blk_cell H5 6).trans rfl
  have v7 : w5.cell? ⟨w.heap.size, 7, none⟩ = some (.int .i64 c) := (blk_cell H5 7).trans rfl
  have v8 : w5.cell? ⟨w.heap.size, 8, none⟩ = some (.bool o) := (blk_cell H5 8).trans rfl
  have v9 : w5.cell? ⟨w.heap.size, 9, none⟩ = some (.bool h) := (blk_cell H5 9).trans rfl
  have v10 : w5.cell? ⟨w.heap.size, 10, none⟩ = some (.int .i64 d) := (blk_cell H5 10).trans rfl
  refine bodyPost_ret (v := .tuple #[letV (k, f, t, b, s, wh, wr, c, o, h, d), .bool true]) (by simp [results, Try.results20, go_sem, v0, v1, v2, v3, v4, v5, v6, v7, v8, v9, v10]; try rfl) rfl ?_
  have hsz := N.out.bel.size
  have hg4 := hlt.out
  exact ⟨_, rfl, ST.out.1.other CH.out (by omega) (by have := hls.out; simp [Value.ownBlock]; omega) hsz, CG.out, .inl rfl⟩

end Go.Proofs.Ytedfjadgfkbfiaa.NetW
