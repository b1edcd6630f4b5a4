/- What the reference's Take does where a letter is taken. -/
import Derived.Test.YtedfjadgfkbfiaaNetRefNo
import Derived.Test.YtedfjadgfkbfiaaNetDropsWalk
import Derived.Deep.DeepCutAuto
namespace Go.Proofs.Ytedfjadgfkbfiaa.NetW
open Go.RowKit Go.Proofs.YtedfjadgfkbfiaaW.PrintWords Go.Proofs.Ytedfjadgfkbfiaa.Opens
set_option linter.unusedVariables false
set_option linter.unusedSimpArgs false
attribute [local go_sem] nil27 World.cell?_alloc_some
attribute [local go_sem high] eqA36

theorem sinceR {n m : Nat} {a b : Value} (h : ∃ k, a.ownBlock = some k ∧ n ≤ k) (hs : b.ownBlock = a.ownBlock ∨ ∃ k, b.ownBlock = some k ∧ m ≤ k) (hm : n ≤ m) : ∃ k, b.ownBlock = some k ∧ n ≤ k := by
  rcases hs with e | ⟨k, e, hk⟩
  · rw [e]; exact h
  · exact ⟨k, e, Nat.le_trans hm hk⟩
theorem dropR {w : World} {b : Nat} {xs : List LetR} (h : RowL w (some ⟨b, 0, none⟩) xs) (n : Nat) : RowL w (some ⟨b, n * 11, none⟩) (xs.drop n) := by
  have := RowL.drop h n
  rwa [Addr.add_lit, Nat.zero_add] at this
theorem leafR {rm : Int} {xs ys : List LetR} {v v' : Value} {g : Nat} {w0 w w2 W : World} {cs1 cs2 : Array Value} (N : NetAt 47 rm xs v g w0 w) (B2 : Below w.heap.size w w2) (BB : Below w2.heap.size w2 W) (OO : OwnL w2.heap.size v' ys W) (hS : ∃ b, v'.ownBlock = some b ∧ w2.heap.size ≤ b) (hl : (ys.length : Int) ≤ rm)
    (X1 : w2.heap[w.heap.size]? = some (.cells cs1 36)) (X2 : w2.heap[w.heap.size + 1]? = some (.cells cs2 36)) :
    NetAt 47 rm ys v' g w0 (W.setCell ⟨g, 1, none⟩ v') ∧ Chg g v.ownBlock w (W.setCell ⟨g, 1, none⟩ v') ∧ Since w.heap.size v v' ∧ (W.setCell ⟨g, 1, none⟩ v').heap[w.heap.size]? = some (.cells cs1 36) ∧ (W.setCell ⟨g, 1, none⟩ v').heap[w.heap.size + 1]? = some (.cells cs2 36) ∧ v'.ownBlock ≠ some w.heap.size := by
  have N3 := (N.below B2).below BB
  obtain ⟨b, hb, hbl⟩ := hS
  have hsz := B2.size
  have hlt := N.lt
  have hx2 := blk_lt X2
  have hfr : Since w.heap.size v v' := .inr ⟨b, hb, by omega⟩
  have hC : Chg g v.ownBlock w W := Chg.of_below g _ (B2.trans (BB.mono hsz))
  have hb0 := N.bel.size
  have st := stored N (OwnL.base OO (by omega)) hC N3.blk hfr hl
  exact ⟨st.1, st.2, hfr, (Below.heap_setCell W ⟨g, 1, none⟩ v' _ (show w.heap.size ≠ g by omega)).trans (blk_below X1 BB), (Below.heap_setCell W ⟨g, 1, none⟩ v' _ (show w.heap.size + 1 ≠ g by omega)).trans (blk_below X2 BB), by rw [hb]; intro e; injection e with e; omega⟩

set_option maxHeartbeats 16000000 in
set_option maxRecDepth 100000 in
theorem rtake_yes {rm : Int} {xs : List LetR} {v : Value} {g i : Nat} {w0 w : World} (hN : NetAt 47 rm xs v g w0 w) (hi : i < xs.length) :
    Calls Try.prog 24 #[.pointer (some ⟨g, 0, none⟩), .int .i64 i] w (NPost 47 (.tuple #[letV (xs.getD i l0), .bool true]) rm (xs.eraseIdx i) v g w0 w) := by
  obtain ⟨g', cap, rfl, hc63, hcap, hlt', hcell⟩ := own_some hN.own hi
  generalize hl : xs.getD i l0 = l at *
  obtain ⟨k1, f1, t1, b1, s1, wh1, wr1, cn1, o1, h1, d1⟩ := l
  clear hl
  simp only [letCells] at hcell
  have e0 : w.cell? ⟨g', i * 11, none⟩ = some (.int .i64 k1) := by simpa [Addr.add] using hcell 0 (by omega)
  have e1 : w.cell? ⟨g', i * 11 + 1, none⟩ = some (.int .i64 f1) := by simpa [Addr.add] using hcell 1 (by omega)
  have e2 : w.cell? ⟨g', i * 11 + 2, none⟩ = some (.int .i64 t1) := by simpa [Addr.add] using hcell 2 (by omega)
  have e3 : w.cell? ⟨g', i * 11 + 3, none⟩ = some (.int .i64 b1) := by simpa [Addr.add] using hcell 3 (by omega)
  have e4 : w.cell? ⟨g', i * 11 + 4, none⟩ = some (.int .i64 s1) := by simpa [Addr.add] using hcell 4 (by omega)
  have e5 : w.cell? ⟨g', i * 11 + 5, none⟩ = some (.int .i64 wh1) := by simpa [Addr.add] using hcell 5 (by omega)
  have e6 : w.cell? ⟨g', i * 11 + 6, none⟩ = some (.bool wr1) := by simpa [Addr.add] using hcell 6 (by omega)
  have e7 : w.cell? ⟨g', i * 11 + 7, none⟩ = some (.int .i64 cn1) := by simpa [Addr.add] using hcell 7 (by omega)
  have e8 : w.cell? ⟨g', i * 11 + 8, none⟩ = some (.bool o1) := by simpa [Addr.add] using hcell 8 (by omega)
  have e9 : w.cell? ⟨g', i * 11 + 9, none⟩ = some (.bool h1) := by simpa [Addr.add] using hcell 9 (by omega)
  have e10 : w.cell? ⟨g', i * 11 + 10, none⟩ = some (.int .i64 d1) := by simpa [Addr.add] using hcell 10 (by omega)
  clear hcell
  have c1 : w.cell? ⟨g, 1, none⟩ = some (.slice (some ⟨g', 0, none⟩) xs.length cap) := (blk_cell hN.blk 1).trans rfl
  obtain ⟨hr1, hr2, hr3⟩ := hN.room
  have N := Aside0.mk hN
  have N2 := Aside0.mk (hN.below (below_alloc (below_alloc (Below.refl _ w) (.cells #[.int .i64 0, .int .i64 0, .int .i64 0, .int .i64 0, .int .i64 0, .int .i64 0, .bool false, .int .i64 0, .bool false, .bool false, .int .i64 0] 36)) (.cells #[.int .i64 k1, .int .i64 f1, .int .i64 t1, .int .i64 b1, .int .i64 s1, .int .i64 wh1, .bool wr1, .int .i64 cn1, .bool o1, .bool h1, .int .i64 d1] 36)))
  have X4 := Aside0.mk (blk_alloc (blk_new w (.cells #[.int .i64 0, .int .i64 0, .int .i64 0, .int .i64 0, .int .i64 0, .int .i64 0, .bool false, .int .i64 0, .bool false, .bool false, .int .i64 0] 36)) (.cells #[.int .i64 k1, .int .i64 f1, .int .i64 t1, .int .i64 b1, .int .i64 s1, .int .i64 wh1, .bool wr1, .int .i64 cn1, .bool o1, .bool h1, .int .i64 d1] 36))
  have X6 := Aside0.mk (blk_new (w.alloc (.cells #[.int .i64 0, .int .i64 0, .int .i64 0, .int .i64 0, .int .i64 0, .int .i64 0, .bool false, .int .i64 0, .bool false, .bool false, .int .i64 0] 36)) (.cells #[.int .i64 k1, .int .i64 f1, .int .i64 t1, .int .i64 b1, .int .i64 s1, .int .i64 wh1, .bool wr1, .int .i64 cn1, .bool o1, .bool h1, .int .i64 d1] 36))
  have HB := Aside0.mk (below_alloc (below_alloc (Below.refl _ w) (.cells #[.int .i64 0, .int .i64 0, .int .i64 0, .int .i64 0, .int .i64 0, .int .i64 0, .bool false, .int .i64 0, .bool false, .bool false, .int .i64 0] 36)) (.cells #[.int .i64 k1, .int .i64 f1, .int .i64 t1, .int .i64 b1, .int .i64 s1, .int .i64 wh1, .bool wr1, .int .i64 cn1, .bool o1, .bool h1, .int .i64 d1] 36))
  have hlt := Aside0.mk hN.lt
  have hN' := Aside0.mk hN.ne
  have q0 : (0 : Int) ≤ (i : Int) := by omega
  have q1 : (i : Int) < (xs.length : Int) := by omega
  have qn : ¬ ((i : Int) < 0) := by omega
  have q2 : (i : Int) ≤ (cap : Int) := by omega
  have q3 : (i : Int) + 1 ≤ (xs.length : Int) := by omega
  have q4 : (i : Int) + 1 ≤ (cap : Int) := by omega
  have q5 : wrap64 ((i : Int) + 1) = (i : Int) + 1 := by unfold wrap64; omega
  have q6 : (0 : Int) ≤ (i : Int) + 1 := by omega
  have q7 : IntKind.i64.wrap ((i : Int) + 1) = (i : Int) + 1 := by rw [IntKind.wrap_i64]; omega
  have q9 : (i : Int) ≤ (i : Int) + 1 := by omega
  have q8 : ((i : Int) + 1).toNat = i + 1 := by omega
  have LT := Aside0.mk (show i = (xs.take i).length by simp; omega)
  have LD := Aside0.mk (show xs.length - (i + 1) = (xs.drop (i + 1)).length by simp)
  have ER := Aside0.mk (show xs.eraseIdx i = ([] ++ xs.take i) ++ xs.drop (i + 1) by rw [List.nil_append]; exact List.eraseIdx_eq_take_drop_succ xs i)
  have LE := Aside0.mk (List.length_eraseIdx_of_lt hi)
  have LX := Aside0.mk (show xs.length ≤ 65536 by omega)
  clear hN
  have RX : Aside0 (RowL w (some ⟨g', 0, none⟩) xs) := by
    obtain ⟨A9, k9, e, hr, _⟩ := OwnL.row N.out.own
    simp at e
    rw [← e.1] at hr
    exact ⟨hr⟩
  by_cases hc1 : cap = i + 1
  · have DE := Aside0.mk (show xs.drop (i + 1) = [] from List.drop_eq_nil_of_le (by omega))
    go_enter Try.func24, Try.ntmps24
    go_upto_region 5 with fail
    go_cut [4, 6] (fun v4 v6 wx => v4 = .pointer (some ⟨w.heap.size, 0, none⟩) ∧ v6 = .pointer (some ⟨w.heap.size + 1, 0, none⟩) ∧ ∃ v', Aside0 (NetAt 47 rm (xs.eraseIdx i) v' g w0 wx ∧ Chg g (some g') w wx ∧ Since w.heap.size (.slice (some ⟨g', 0, none⟩) xs.length cap) v' ∧ wx.heap[w.heap.size]? = some (.cells #[.int .i64 0, .int .i64 0, .int .i64 0, .int .i64 0, .int .i64 0, .int .i64 0, .bool false, .int .i64 0, .bool false, .bool false, .int .i64 0] 36) ∧ wx.heap[w.heap.size + 1]? = some (.cells #[.int .i64 k1, .int .i64 f1, .int .i64 t1, .int .i64 b1, .int .i64 s1, .int .i64 wh1, .bool wr1, .int .i64 cn1, .bool o1, .bool h1, .int .i64 d1] 36) ∧ v'.ownBlock ≠ some w.heap.size))
    case first =>
      go_wp2_with fail
      refine wp_region_any (by kernel_rfl) ?_
      (try (change wpAny _ _ _ _ _ _ _ (World.drew _)))
      generalize hw2 : World.drew _ = w2
      have B2 := Aside0.mk (show Below w.heap.size w w2 from by rw [← hw2]; exact Below.drew HB.out)
      have N3 := Aside0.mk (show NetAt 47 rm xs _ g w0 w2 from N.out.below B2.out)
      have X4 := Aside0.mk (show w2.heap[w.heap.size]? = some (.cells #[.int .i64 0, .int .i64 0, .int .i64 0, .int .i64 0, .int .i64 0, .int .i64 0, .bool false, .int .i64 0, .bool false, .bool false, .int .i64 0] 36) from by rw [← hw2]; exact blk_drew X4.out)
      have X6 := Aside0.mk (show w2.heap[w.heap.size + 1]? = some (.cells #[.int .i64 k1, .int .i64 f1, .int .i64 t1, .int .i64 b1, .int .i64 s1, .int .i64 wh1, .bool wr1, .int .i64 cn1, .bool o1, .bool h1, .int .i64 d1] 36) from by rw [← hw2]; have := blk_drew X6.out; simpa using this)
      have RX := Aside0.mk (RowL.below RX.out B2.out)
      have HS := Aside0.mk (show w.heap.size ≤ w2.heap.size from B2.out.size)
      clear hw2
      have BB0 := Aside0.mk (Below.refl w2.heap.size w2)
      have cc0 : w2.cell? ⟨g, 1, none⟩ = some (.slice (some ⟨g', 0, none⟩) xs.length cap) := (blk_cell N3.out.blk 1).trans rfl
      refine wpAny_take (i := 0) (v := ?_) rfl (by kernel_rfl) (by kernel_rfl) (by kernel_rfl) (fun _ _ _ h => h) (Or.inl ⟨by kernel_rfl, ?_⟩) ?_
      rotate_left
      · intro w; go_simp; try (with_reducible rfl)
      rotate_left
      refine wpAny_take (i := 2) (v := ?_) rfl (by kernel_rfl) (by kernel_rfl) (by kernel_rfl) (fun _ _ _ h => h) (Or.inl ⟨by kernel_rfl, ?_⟩) ?_
      rotate_left
      · intro w; go_simp; try (with_reducible rfl)
      rotate_left
      refine wpAny_take (i := 3) (v := ?_) rfl (by kernel_rfl) (by kernel_rfl) (by kernel_rfl) (fun _ _ _ h => h) (Or.inl ⟨by kernel_rfl, ?_⟩) ?_
      rotate_left
      · intro w; go_simp; try (with_reducible rfl)
      rotate_left
      refine wpAny_take (i := 4) (v := ?_) rfl (by kernel_rfl) (by kernel_rfl) (by kernel_rfl) (fun _ _ _ h => h) (Or.inl ⟨by kernel_rfl, ?_⟩) ?_
      rotate_left
      · intro w; go_simp; try (with_reducible rfl)
      rotate_left
      refine wpAny_take (i := 6) (v := ?_) rfl (by kernel_rfl) (by kernel_rfl) (by kernel_rfl) (fun _ _ _ h => h) (Or.inl ⟨by kernel_rfl, ?_⟩) ?_
      rotate_left
      · intro w; go_simp; try (with_reducible rfl)
      rotate_left
      refine wpAny_take (i := 9) (v := ?_) rfl (by kernel_rfl) (by kernel_rfl) (by kernel_rfl) (fun _ _ _ h => h) (Or.inl ⟨by kernel_rfl, ?_⟩) ?_
      rotate_left
      · intro w; go_simp; try (with_reducible rfl)
      rotate_left
      refine wpAny_take (i := 10) (v := ?_) rfl (by kernel_rfl) (by kernel_rfl) (by kernel_rfl) (fun _ _ _ h => h) (Or.inl ⟨by kernel_rfl, ?_⟩) ?_
      rotate_left
      · intro w; go_simp; try (with_reducible rfl)
      rotate_left
      refine wpAny_take (i := 11) (v := ?_) rfl (by kernel_rfl) (by kernel_rfl) (by kernel_rfl) (fun _ _ _ h => h) (Or.inl ⟨by kernel_rfl, ?_⟩) ?_
      rotate_left
      · intro w; go_simp; try (with_reducible rfl)
      rotate_left
      refine wpAny_take (i := 13) (v := ?_) rfl (by kernel_rfl) (by kernel_rfl) (by kernel_rfl) (fun _ _ _ h => h) (Or.inl ⟨by kernel_rfl, ?_⟩) ?_
      rotate_left
      · intro w; go_simp; try (with_reducible rfl)
      rotate_left
      refine wpAny_take (i := 14) (v := ?_) rfl (by kernel_rfl) (by kernel_rfl) (by kernel_rfl) (fun _ _ _ h => h) (Or.inl ⟨by kernel_rfl, ?_⟩) ?_
      rotate_left
      · intro w; go_simp; try (with_reducible rfl)
      rotate_left
      refine wpAny_ready (rs := [1, 5, 12]) (by kernel_rfl) (by simp) ?_
      refine AllReady.cons rfl (fun K hK => ?_) (AllReady.cons rfl (fun K hK => ?_) (AllReady.cons rfl (fun K hK => ?_) AllReady.nil))
      · go_simp
        refine hK _ _ ?_
        clear hK K
        have OO1 := Aside0.mk (show OwnL w2.heap.size (.slice (some ⟨w2.heap.size, 0, none⟩) 0 0) [] (w2.alloc (.cells #[] 36)) from World.ownsRow_made w2 #[] 0 (BB0.out.size) (Nat.zero_le _) rfl)
        have BB1 := Aside0.mk (show Below w2.heap.size w2 (w2.alloc (.cells #[] 36)) from below_alloc BB0.out (.cells #[] 36))
        have cc1 : (w2.alloc (.cells #[] 36)).cell? ⟨g, 1, none⟩ = some (.slice (some ⟨g', 0, none⟩) xs.length cap) := (blk_cell (N3.out.below BB1.out).blk 1).trans rfl
        have RR1 := Aside0.mk (RowL.below RX.out BB1.out)
        have SS1 := Aside0.mk (show ∃ b, (Value.slice (some ⟨w2.heap.size, 0, none⟩) 0 0).ownBlock = some b ∧ w2.heap.size ≤ b from ⟨_, rfl, BB0.out.size⟩)
        refine wpAny_ready (rs := [5, 12]) (by kernel_rfl) (by simp) ?_
        refine AllReady.cons rfl (fun K hK => ?_) (AllReady.cons rfl (fun K hK => ?_) AllReady.nil)
        · go_simp
          refine hK _ _ ?_
          clear hK K
          refine wpAny_take (i := 7) (v := ?_) rfl (by kernel_rfl) (by kernel_rfl) (by kernel_rfl) (fun _ _ _ h => h) (Or.inl ⟨by kernel_rfl, ?_⟩) ?_
          rotate_left
          · intro w; go_simp; try (with_reducible rfl)
          rotate_left
          refine wpAny_ready (rs := [8, 12]) (by kernel_rfl) (by simp) ?_
          refine AllReady.cons rfl (fun K hK => ?_) (AllReady.cons rfl (fun K hK => ?_) AllReady.nil)
          · refine step_app2 (ys := xs.take i) rfl _ _ rfl rfl rfl LT.out OO1.out (RowL.take RR1.out i) (by have := LX.out; simp; omega) BB1.out.size ?_
            intro v1 w3a hO1 hg1 hs1
            obtain ⟨A3, n3, k3, rfl⟩ : ∃ A n c, v1 = .slice A n c := (by obtain ⟨A, c, h, _⟩ := OwnL.row hO1; exact ⟨_, _, _, h⟩)
            have OO3 := Aside0.mk hO1
            have BB3 := Aside0.mk (show Below w2.heap.size w2 w3a from BB1.out.grown hg1 BB1.out.size (fun k hk => (OwnL.lt OO1.out k hk).1))
            have cc3 : w3a.cell? ⟨g, 1, none⟩ = some (.slice (some ⟨g', 0, none⟩) xs.length cap) := (blk_cell (N3.out.below BB3.out).blk 1).trans rfl
            have RR3 := Aside0.mk (RowL.below RX.out BB3.out)
            have SS3 := Aside0.mk (sinceR SS1.out hs1 BB1.out.size)
            clear hO1 hg1 hs1
            (try go_simp)
            refine hK _ _ ?_
            clear hK K
            refine wpAny_ready (rs := [12]) (by kernel_rfl) (by simp) ?_
            refine AllReady.cons rfl (fun K hK => ?_) AllReady.nil
            go_simp
            refine hK _ _ ?_
            clear hK K
            refine wpAny_take (i := 15) (v := ?_) rfl (by kernel_rfl) (by kernel_rfl) (by kernel_rfl) (fun _ _ _ h => h) (Or.inl ⟨by kernel_rfl, ?_⟩) ?_
            rotate_left
            · intro w; go_simp; try (with_reducible rfl)
            rotate_left
            refine wpAny_ready (rs := [16]) (by kernel_rfl) (by simp) ?_
            refine AllReady.cons rfl (fun K hK => ?_) AllReady.nil
            refine step_app2 (ys := xs.drop (i + 1)) rfl _ _ rfl rfl rfl LD.out OO3.out (by rw [DE.out]; exact RowL.none_) (by have := LX.out; simp; omega) BB3.out.size ?_
            intro v1 w5a hO1 hg1 hs1
            obtain ⟨A5, n5, k5, rfl⟩ : ∃ A n c, v1 = .slice A n c := (by obtain ⟨A, c, h, _⟩ := OwnL.row hO1; exact ⟨_, _, _, h⟩)
            have OO5 := Aside0.mk hO1
            have BB5 := Aside0.mk (show Below w2.heap.size w2 w5a from BB3.out.grown hg1 BB3.out.size (fun k hk => (OwnL.lt OO3.out k hk).1))
            have cc5 : w5a.cell? ⟨g, 1, none⟩ = some (.slice (some ⟨g', 0, none⟩) xs.length cap) := (blk_cell (N3.out.below BB5.out).blk 1).trans rfl
            have zz5 : w5a.frozen? ⟨g, 1, none⟩ = false := blk_frozen (N3.out.below BB5.out).blk 1
            have SS5 := Aside0.mk (sinceR SS3.out hs1 BB3.out.size)
            clear hO1 hg1 hs1
            (try go_simp)
            refine hK _ _ ?_
            clear hK K
            refine wpAny_take (i := 17) (v := ?_) rfl (by kernel_rfl) (by kernel_rfl) (by kernel_rfl) (fun _ _ _ h => h) (Or.inl ⟨by kernel_rfl, ?_⟩) ?_
            rotate_left
            · intro w; go_simp; try (with_reducible rfl)
            rotate_left
            refine wpAny_take (i := 18) (v := ?_) rfl (by kernel_rfl) (by kernel_rfl) (by kernel_rfl) (fun _ _ _ h => h) (Or.inl ⟨by kernel_rfl, ?_⟩) ?_
            rotate_left
            · intro w; go_simp; try (with_reducible rfl)
            rotate_left
            refine wpAny_ready (rs := [19]) (by kernel_rfl) (by simp) ?_
            refine AllReady.cons rfl (fun K hK => ?_) AllReady.nil
            go_simp
            refine hK _ _ ?_
            clear hK K
            refine wpAny_done (by kernel_rfl) ?_ _
            go_wp2
            go_meet
            have hf := leafR N.out B2.out BB5.out OO5.out SS5.out (by have := LE.out; simp; omega) X4.out X6.out
            exact ⟨rfl, rfl, _, ⟨by rw [ER.out]; exact hf.1, hf.2.1, hf.2.2.1, hf.2.2.2.1, hf.2.2.2.2.1, hf.2.2.2.2.2⟩⟩
          · go_simp
            refine hK _ _ ?_
            clear hK K
            refine wpAny_take (i := 15) (v := ?_) rfl (by kernel_rfl) (by kernel_rfl) (by kernel_rfl) (fun _ _ _ h => h) (Or.inl ⟨by kernel_rfl, ?_⟩) ?_
            rotate_left
            · intro w; go_simp; try (with_reducible rfl)
            rotate_left
            refine wpAny_ready (rs := [8]) (by kernel_rfl) (by simp) ?_
            refine AllReady.cons rfl (fun K hK => ?_) AllReady.nil
            refine step_app2 (ys := xs.take i) rfl _ _ rfl rfl rfl LT.out OO1.out (RowL.take RR1.out i) (by have := LX.out; simp; omega) BB1.out.size ?_
            intro v1 w8a hO1 hg1 hs1
            obtain ⟨A8, n8, k8, rfl⟩ : ∃ A n c, v1 = .slice A n c := (by obtain ⟨A, c, h, _⟩ := OwnL.row hO1; exact ⟨_, _, _, h⟩)
            have OO8 := Aside0.mk hO1
            have BB8 := Aside0.mk (show Below w2.heap.size w2 w8a from BB1.out.grown hg1 BB1.out.size (fun k hk => (OwnL.lt OO1.out k hk).1))
            have cc8 : w8a.cell? ⟨g, 1, none⟩ = some (.slice (some ⟨g', 0, none⟩) xs.length cap) := (blk_cell (N3.out.below BB8.out).blk 1).trans rfl
            have RR8 := Aside0.mk (RowL.below RX.out BB8.out)
            have SS8 := Aside0.mk (sinceR SS1.out hs1 BB1.out.size)
            clear hO1 hg1 hs1
            (try go_simp)
            refine hK _ _ ?_
            clear hK K
            refine wpAny_ready (rs := [16]) (by kernel_rfl) (by simp) ?_
            refine AllReady.cons rfl (fun K hK => ?_) AllReady.nil
            refine step_app2 (ys := xs.drop (i + 1)) rfl _ _ rfl rfl rfl LD.out OO8.out (by rw [DE.out]; exact RowL.none_) (by have := LX.out; simp; omega) BB8.out.size ?_
            intro v1 w9a hO1 hg1 hs1
            obtain ⟨A9, n9, k9, rfl⟩ : ∃ A n c, v1 = .slice A n c := (by obtain ⟨A, c, h, _⟩ := OwnL.row hO1; exact ⟨_, _, _, h⟩)
            have OO9 := Aside0.mk hO1
            have BB9 := Aside0.mk (show Below w2.heap.size w2 w9a from BB8.out.grown hg1 BB8.out.size (fun k hk => (OwnL.lt OO8.out k hk).1))
            have cc9 : w9a.cell? ⟨g, 1, none⟩ = some (.slice (some ⟨g', 0, none⟩) xs.length cap) := (blk_cell (N3.out.below BB9.out).blk 1).trans rfl
            have zz9 : w9a.frozen? ⟨g, 1, none⟩ = false := blk_frozen (N3.out.below BB9.out).blk 1
            have SS9 := Aside0.mk (sinceR SS8.out hs1 BB8.out.size)
            clear hO1 hg1 hs1
            (try go_simp)
            refine hK _ _ ?_
            clear hK K
            refine wpAny_take (i := 17) (v := ?_) rfl (by kernel_rfl) (by kernel_rfl) (by kernel_rfl) (fun _ _ _ h => h) (Or.inl ⟨by kernel_rfl, ?_⟩) ?_
            rotate_left
            · intro w; go_simp; try (with_reducible rfl)
            rotate_left
            refine wpAny_take (i := 18) (v := ?_) rfl (by kernel_rfl) (by kernel_rfl) (by kernel_rfl) (fun _ _ _ h => h) (Or.inl ⟨by kernel_rfl, ?_⟩) ?_
            rotate_left
            · intro w; go_simp; try (with_reducible rfl)
            rotate_left
            refine wpAny_ready (rs := [19]) (by kernel_rfl) (by simp) ?_
            refine AllReady.cons rfl (fun K hK => ?_) AllReady.nil
            go_simp
            refine hK _ _ ?_
            clear hK K
            refine wpAny_done (by kernel_rfl) ?_ _
            go_wp2
            go_meet
            have hf := leafR N.out B2.out BB9.out OO9.out SS9.out (by have := LE.out; simp; omega) X4.out X6.out
            exact ⟨rfl, rfl, _, ⟨by rw [ER.out]; exact hf.1, hf.2.1, hf.2.2.1, hf.2.2.2.1, hf.2.2.2.2.1, hf.2.2.2.2.2⟩⟩
        · go_simp
          refine hK _ _ ?_
          clear hK K
          refine wpAny_take (i := 15) (v := ?_) rfl (by kernel_rfl) (by kernel_rfl) (by kernel_rfl) (fun _ _ _ h => h) (Or.inl ⟨by kernel_rfl, ?_⟩) ?_
          rotate_left
          · intro w; go_simp; try (with_reducible rfl)
          rotate_left
          refine wpAny_ready (rs := [5]) (by kernel_rfl) (by simp) ?_
          refine AllReady.cons rfl (fun K hK => ?_) AllReady.nil
          go_simp
          refine hK _ _ ?_
          clear hK K
          refine wpAny_take (i := 7) (v := ?_) rfl (by kernel_rfl) (by kernel_rfl) (by kernel_rfl) (fun _ _ _ h => h) (Or.inl ⟨by kernel_rfl, ?_⟩) ?_
          rotate_left
          · intro w; go_simp; try (with_reducible rfl)
          rotate_left
          refine wpAny_ready (rs := [8]) (by kernel_rfl) (by simp) ?_
          refine AllReady.cons rfl (fun K hK => ?_) AllReady.nil
          refine step_app2 (ys := xs.take i) rfl _ _ rfl rfl rfl LT.out OO1.out (RowL.take RR1.out i) (by have := LX.out; simp; omega) BB1.out.size ?_
          intro v1 w13a hO1 hg1 hs1
          obtain ⟨A13, n13, k13, rfl⟩ : ∃ A n c, v1 = .slice A n c := (by obtain ⟨A, c, h, _⟩ := OwnL.row hO1; exact ⟨_, _, _, h⟩)
          have OO13 := Aside0.mk hO1
          have BB13 := Aside0.mk (show Below w2.heap.size w2 w13a from BB1.out.grown hg1 BB1.out.size (fun k hk => (OwnL.lt OO1.out k hk).1))
          have cc13 : w13a.cell? ⟨g, 1, none⟩ = some (.slice (some ⟨g', 0, none⟩) xs.length cap) := (blk_cell (N3.out.below BB13.out).blk 1).trans rfl
          have RR13 := Aside0.mk (RowL.below RX.out BB13.out)
          have SS13 := Aside0.mk (sinceR SS1.out hs1 BB1.out.size)
          clear hO1 hg1 hs1
          (try go_simp)
          refine hK _ _ ?_
          clear hK K
          refine wpAny_ready (rs := [16]) (by kernel_rfl) (by simp) ?_
          refine AllReady.cons rfl (fun K hK => ?_) AllReady.nil
          refine step_app2 (ys := xs.drop (i + 1)) rfl _ _ rfl rfl rfl LD.out OO13.out (by rw [DE.out]; exact RowL.none_) (by have := LX.out; simp; omega) BB13.out.size ?_
          intro v1 w14a hO1 hg1 hs1
          obtain ⟨A14, n14, k14, rfl⟩ : ∃ A n c, v1 = .slice A n c := (by obtain ⟨A, c, h, _⟩ := OwnL.row hO1; exact ⟨_, _, _, h⟩)
          have OO14 := Aside0.mk hO1
          have BB14 := Aside0.mk (show Below w2.heap.size w2 w14a from BB13.out.grown hg1 BB13.out.size (fun k hk => (OwnL.lt OO13.out k hk).1))
          have cc14 : w14a.cell? ⟨g, 1, none⟩ = some (.slice (some ⟨g', 0, none⟩) xs.length cap) := (blk_cell (N3.out.below BB14.out).blk 1).trans rfl
          have zz14 : w14a.frozen? ⟨g, 1, none⟩ = false := blk_frozen (N3.out.below BB14.out).blk 1
          have SS14 := Aside0.mk (sinceR SS13.out hs1 BB13.out.size)
          clear hO1 hg1 hs1
          (try go_simp)
          refine hK _ _ ?_
          clear hK K
          refine wpAny_take (i := 17) (v := ?_) rfl (by kernel_rfl) (by kernel_rfl) (by kernel_rfl) (fun _ _ _ h => h) (Or.inl ⟨by kernel_rfl, ?_⟩) ?_
          rotate_left
          · intro w; go_simp; try (with_reducible rfl)
          rotate_left
          refine wpAny_take (i := 18) (v := ?_) rfl (by kernel_rfl) (by kernel_rfl) (by kernel_rfl) (fun _ _ _ h => h) (Or.inl ⟨by kernel_rfl, ?_⟩) ?_
          rotate_left
          · intro w; go_simp; try (with_reducible rfl)
          rotate_left
          refine wpAny_ready (rs := [19]) (by kernel_rfl) (by simp) ?_
          refine AllReady.cons rfl (fun K hK => ?_) AllReady.nil
          go_simp
          refine hK _ _ ?_
          clear hK K
          refine wpAny_done (by kernel_rfl) ?_ _
          go_wp2
          go_meet
          have hf := leafR N.out B2.out BB14.out OO14.out SS14.out (by have := LE.out; simp; omega) X4.out X6.out
          exact ⟨rfl, rfl, _, ⟨by rw [ER.out]; exact hf.1, hf.2.1, hf.2.2.1, hf.2.2.2.1, hf.2.2.2.2.1, hf.2.2.2.2.2⟩⟩
      · go_simp
        refine hK _ _ ?_
        clear hK K
        refine wpAny_take (i := 7) (v := ?_) rfl (by kernel_rfl) (by kernel_rfl) (by kernel_rfl) (fun _ _ _ h => h) (Or.inl ⟨by kernel_rfl, ?_⟩) ?_
        rotate_left
        · intro w; go_simp; try (with_reducible rfl)
        rotate_left
        refine wpAny_ready (rs := [1, 12]) (by kernel_rfl) (by simp) ?_
        refine AllReady.cons rfl (fun K hK => ?_) (AllReady.cons rfl (fun K hK => ?_) AllReady.nil)
        · go_simp
          refine hK _ _ ?_
          clear hK K
          have OO17 := Aside0.mk (show OwnL w2.heap.size (.slice (some ⟨w2.heap.size, 0, none⟩) 0 0) [] (w2.alloc (.cells #[] 36)) from World.ownsRow_made w2 #[] 0 (BB0.out.size) (Nat.zero_le _) rfl)
          have BB17 := Aside0.mk (show Below w2.heap.size w2 (w2.alloc (.cells #[] 36)) from below_alloc BB0.out (.cells #[] 36))
          have cc17 : (w2.alloc (.cells #[] 36)).cell? ⟨g, 1, none⟩ = some (.slice (some ⟨g', 0, none⟩) xs.length cap) := (blk_cell (N3.out.below BB17.out).blk 1).trans rfl
          have RR17 := Aside0.mk (RowL.below RX.out BB17.out)
          have SS17 := Aside0.mk (show ∃ b, (Value.slice (some ⟨w2.heap.size, 0, none⟩) 0 0).ownBlock = some b ∧ w2.heap.size ≤ b from ⟨_, rfl, BB0.out.size⟩)
          refine wpAny_ready (rs := [8, 12]) (by kernel_rfl) (by simp) ?_
          refine AllReady.cons rfl (fun K hK => ?_) (AllReady.cons rfl (fun K hK => ?_) AllReady.nil)
          · refine step_app2 (ys := xs.take i) rfl _ _ rfl rfl rfl LT.out OO17.out (RowL.take RR17.out i) (by have := LX.out; simp; omega) BB17.out.size ?_
            intro v1 w18a hO1 hg1 hs1
            obtain ⟨A18, n18, k18, rfl⟩ : ∃ A n c, v1 = .slice A n c := (by obtain ⟨A, c, h, _⟩ := OwnL.row hO1; exact ⟨_, _, _, h⟩)
            have OO18 := Aside0.mk hO1
            have BB18 := Aside0.mk (show Below w2.heap.size w2 w18a from BB17.out.grown hg1 BB17.out.size (fun k hk => (OwnL.lt OO17.out k hk).1))
            have cc18 : w18a.cell? ⟨g, 1, none⟩ = some (.slice (some ⟨g', 0, none⟩) xs.length cap) := (blk_cell (N3.out.below BB18.out).blk 1).trans rfl
            have RR18 := Aside0.mk (RowL.below RX.out BB18.out)
            have SS18 := Aside0.mk (sinceR SS17.out hs1 BB17.out.size)
            clear hO1 hg1 hs1
            (try go_simp)
            refine hK _ _ ?_
            clear hK K
            refine wpAny_ready (rs := [12]) (by kernel_rfl) (by simp) ?_
            refine AllReady.cons rfl (fun K hK => ?_) AllReady.nil
            go_simp
            refine hK _ _ ?_
            clear hK K
            refine wpAny_take (i := 15) (v := ?_) rfl (by kernel_rfl) (by kernel_rfl) (by kernel_rfl) (fun _ _ _ h => h) (Or.inl ⟨by kernel_rfl, ?_⟩) ?_
            rotate_left
            · intro w; go_simp; try (with_reducible rfl)
            rotate_left
            refine wpAny_ready (rs := [16]) (by kernel_rfl) (by simp) ?_
            refine AllReady.cons rfl (fun K hK => ?_) AllReady.nil
            refine step_app2 (ys := xs.drop (i + 1)) rfl _ _ rfl rfl rfl LD.out OO18.out (by rw [DE.out]; exact RowL.none_) (by have := LX.out; simp; omega) BB18.out.size ?_
            intro v1 w20a hO1 hg1 hs1
            obtain ⟨A20, n20, k20, rfl⟩ : ∃ A n c, v1 = .slice A n c := (by obtain ⟨A, c, h, _⟩ := OwnL.row hO1; exact ⟨_, _, _, h⟩)
            have OO20 := Aside0.mk hO1
            have BB20 := Aside0.mk (show Below w2.heap.size w2 w20a from BB18.out.grown hg1 BB18.out.size (fun k hk => (OwnL.lt OO18.out k hk).1))
            have cc20 : w20a.cell? ⟨g, 1, none⟩ = some (.slice (some ⟨g', 0, none⟩) xs.length cap) := (blk_cell (N3.out.below BB20.out).blk 1).trans rfl
            have zz20 : w20a.frozen? ⟨g, 1, none⟩ = false := blk_frozen (N3.out.below BB20.out).blk 1
            have SS20 := Aside0.mk (sinceR SS18.out hs1 BB18.out.size)
            clear hO1 hg1 hs1
            (try go_simp)
            refine hK _ _ ?_
            clear hK K
            refine wpAny_take (i := 17) (v := ?_) rfl (by kernel_rfl) (by kernel_rfl) (by kernel_rfl) (fun _ _ _ h => h) (Or.inl ⟨by kernel_rfl, ?_⟩) ?_
            rotate_left
            · intro w; go_simp; try (with_reducible rfl)
            rotate_left
            refine wpAny_take (i := 18) (v := ?_) rfl (by kernel_rfl) (by kernel_rfl) (by kernel_rfl) (fun _ _ _ h => h) (Or.inl ⟨by kernel_rfl, ?_⟩) ?_
            rotate_left
            · intro w; go_simp; try (with_reducible rfl)
            rotate_left
            refine wpAny_ready (rs := [19]) (by kernel_rfl) (by simp) ?_
            refine AllReady.cons rfl (fun K hK => ?_) AllReady.nil
            go_simp
            refine hK _ _ ?_
            clear hK K
            refine wpAny_done (by kernel_rfl) ?_ _
            go_wp2
            go_meet
            have hf := leafR N.out B2.out BB20.out OO20.out SS20.out (by have := LE.out; simp; omega) X4.out X6.out
            exact ⟨rfl, rfl, _, ⟨by rw [ER.out]; exact hf.1, hf.2.1, hf.2.2.1, hf.2.2.2.1, hf.2.2.2.2.1, hf.2.2.2.2.2⟩⟩
          · go_simp
            refine hK _ _ ?_
            clear hK K
            refine wpAny_take (i := 15) (v := ?_) rfl (by kernel_rfl) (by kernel_rfl) (by kernel_rfl) (fun _ _ _ h => h) (Or.inl ⟨by kernel_rfl, ?_⟩) ?_
            rotate_left
            · intro w; go_simp; try (with_reducible rfl)
            rotate_left
            refine wpAny_ready (rs := [8]) (by kernel_rfl) (by simp) ?_
            refine AllReady.cons rfl (fun K hK => ?_) AllReady.nil
            refine step_app2 (ys := xs.take i) rfl _ _ rfl rfl rfl LT.out OO17.out (RowL.take RR17.out i) (by have := LX.out; simp; omega) BB17.out.size ?_
            intro v1 w23a hO1 hg1 hs1
            obtain ⟨A23, n23, k23, rfl⟩ : ∃ A n c, v1 = .slice A n c := (by obtain ⟨A, c, h, _⟩ := OwnL.row hO1; exact ⟨_, _, _, h⟩)
            have OO23 := Aside0.mk hO1
            have BB23 := Aside0.mk (show Below w2.heap.size w2 w23a from BB17.out.grown hg1 BB17.out.size (fun k hk => (OwnL.lt OO17.out k hk).1))
            have cc23 : w23a.cell? ⟨g, 1, none⟩ = some (.slice (some ⟨g', 0, none⟩) xs.length cap) := (blk_cell (N3.out.below BB23.out).blk 1).trans rfl
            have RR23 := Aside0.mk (RowL.below RX.out BB23.out)
            have SS23 := Aside0.mk (sinceR SS17.out hs1 BB17.out.size)
            clear hO1 hg1 hs1
            (try go_simp)
            refine hK _ _ ?_
            clear hK K
            refine wpAny_ready (rs := [16]) (by kernel_rfl) (by simp) ?_
            refine AllReady.cons rfl (fun K hK => ?_) AllReady.nil
            refine step_app2 (ys := xs.drop (i + 1)) rfl _ _ rfl rfl rfl LD.out OO23.out (by rw [DE.out]; exact RowL.none_) (by have := LX.out; simp; omega) BB23.out.size ?_
            intro v1 w24a hO1 hg1 hs1
            obtain ⟨A24, n24, k24, rfl⟩ : ∃ A n c, v1 = .slice A n c := (by obtain ⟨A, c, h, _⟩ := OwnL.row hO1; exact ⟨_, _, _, h⟩)
            have OO24 := Aside0.mk hO1
            have BB24 := Aside0.mk (show Below w2.heap.size w2 w24a from BB23.out.grown hg1 BB23.out.size (fun k hk => (OwnL.lt OO23.out k hk).1))
            have cc24 : w24a.cell? ⟨g, 1, none⟩ = some (.slice (some ⟨g', 0, none⟩) xs.length cap) := (blk_cell (N3.out.below BB24.out).blk 1).trans rfl
            have zz24 : w24a.frozen? ⟨g, 1, none⟩ = false := blk_frozen (N3.out.below BB24.out).blk 1
            have SS24 := Aside0.mk (sinceR SS23.out hs1 BB23.out.size)
            clear hO1 hg1 hs1
            (try go_simp)
            refine hK _ _ ?_
            clear hK K
            refine wpAny_take (i := 17) (v := ?_) rfl (by kernel_rfl) (by kernel_rfl) (by kernel_rfl) (fun _ _ _ h => h) (Or.inl ⟨by kernel_rfl, ?_⟩) ?_
            rotate_left
            · intro w; go_simp; try (with_reducible rfl)
            rotate_left
            refine wpAny_take (i := 18) (v := ?_) rfl (by kernel_rfl) (by kernel_rfl) (by kernel_rfl) (fun _ _ _ h => h) (Or.inl ⟨by kernel_rfl, ?_⟩) ?_
            rotate_left
            · intro w; go_simp; try (with_reducible rfl)
            rotate_left
            refine wpAny_ready (rs := [19]) (by kernel_rfl) (by simp) ?_
            refine AllReady.cons rfl (fun K hK => ?_) AllReady.nil
            go_simp
            refine hK _ _ ?_
            clear hK K
            refine wpAny_done (by kernel_rfl) ?_ _
            go_wp2
            go_meet
            have hf := leafR N.out B2.out BB24.out OO24.out SS24.out (by have := LE.out; simp; omega) X4.out X6.out
            exact ⟨rfl, rfl, _, ⟨by rw [ER.out]; exact hf.1, hf.2.1, hf.2.2.1, hf.2.2.2.1, hf.2.2.2.2.1, hf.2.2.2.2.2⟩⟩
        · go_simp
          refine hK _ _ ?_
          clear hK K
          refine wpAny_take (i := 15) (v := ?_) rfl (by kernel_rfl) (by kernel_rfl) (by kernel_rfl) (fun _ _ _ h => h) (Or.inl ⟨by kernel_rfl, ?_⟩) ?_
          rotate_left
          · intro w; go_simp; try (with_reducible rfl)
          rotate_left
          refine wpAny_ready (rs := [1]) (by kernel_rfl) (by simp) ?_
          refine AllReady.cons rfl (fun K hK => ?_) AllReady.nil
          go_simp
          refine hK _ _ ?_
          clear hK K
          have OO27 := Aside0.mk (show OwnL w2.heap.size (.slice (some ⟨w2.heap.size, 0, none⟩) 0 0) [] (w2.alloc (.cells #[] 36)) from World.ownsRow_made w2 #[] 0 (BB0.out.size) (Nat.zero_le _) rfl)
          have BB27 := Aside0.mk (show Below w2.heap.size w2 (w2.alloc (.cells #[] 36)) from below_alloc BB0.out (.cells #[] 36))
          have cc27 : (w2.alloc (.cells #[] 36)).cell? ⟨g, 1, none⟩ = some (.slice (some ⟨g', 0, none⟩) xs.length cap) := (blk_cell (N3.out.below BB27.out).blk 1).trans rfl
          have RR27 := Aside0.mk (RowL.below RX.out BB27.out)
          have SS27 := Aside0.mk (show ∃ b, (Value.slice (some ⟨w2.heap.size, 0, none⟩) 0 0).ownBlock = some b ∧ w2.heap.size ≤ b from ⟨_, rfl, BB0.out.size⟩)
          refine wpAny_ready (rs := [8]) (by kernel_rfl) (by simp) ?_
          refine AllReady.cons rfl (fun K hK => ?_) AllReady.nil
          refine step_app2 (ys := xs.take i) rfl _ _ rfl rfl rfl LT.out OO27.out (RowL.take RR27.out i) (by have := LX.out; simp; omega) BB27.out.size ?_
          intro v1 w28a hO1 hg1 hs1
          obtain ⟨A28, n28, k28, rfl⟩ : ∃ A n c, v1 = .slice A n c := (by obtain ⟨A, c, h, _⟩ := OwnL.row hO1; exact ⟨_, _, _, h⟩)
          have OO28 := Aside0.mk hO1
          have BB28 := Aside0.mk (show Below w2.heap.size w2 w28a from BB27.out.grown hg1 BB27.out.size (fun k hk => (OwnL.lt OO27.out k hk).1))
          have cc28 : w28a.cell? ⟨g, 1, none⟩ = some (.slice (some ⟨g', 0, none⟩) xs.length cap) := (blk_cell (N3.out.below BB28.out).blk 1).trans rfl
          have RR28 := Aside0.mk (RowL.below RX.out BB28.out)
          have SS28 := Aside0.mk (sinceR SS27.out hs1 BB27.out.size)
          clear hO1 hg1 hs1
          (try go_simp)
          refine hK _ _ ?_
          clear hK K
          refine wpAny_ready (rs := [16]) (by kernel_rfl) (by simp) ?_
          refine AllReady.cons rfl (fun K hK => ?_) AllReady.nil
          refine step_app2 (ys := xs.drop (i + 1)) rfl _ _ rfl rfl rfl LD.out OO28.out (by rw [DE.out]; exact RowL.none_) (by have := LX.out; simp; omega) BB28.out.size ?_
          intro v1 w29a hO1 hg1 hs1
          obtain ⟨A29, n29, k29, rfl⟩ : ∃ A n c, v1 = .slice A n c := (by obtain ⟨A, c, h, _⟩ := OwnL.row hO1; exact ⟨_, _, _, h⟩)
          have OO29 := Aside0.mk hO1
          have BB29 := Aside0.mk (show Below w2.heap.size w2 w29a from BB28.out.grown hg1 BB28.out.size (fun k hk => (OwnL.lt OO28.out k hk).1))
          have cc29 : w29a.cell? ⟨g, 1, none⟩ = some (.slice (some ⟨g', 0, none⟩) xs.length cap) := (blk_cell (N3.out.below BB29.out).blk 1).trans rfl
          have zz29 : w29a.frozen? ⟨g, 1, none⟩ = false := blk_frozen (N3.out.below BB29.out).blk 1
          have SS29 := Aside0.mk (sinceR SS28.out hs1 BB28.out.size)
          clear hO1 hg1 hs1
          (try go_simp)
          refine hK _ _ ?_
          clear hK K
          refine wpAny_take (i := 17) (v := ?_) rfl (by kernel_rfl) (by kernel_rfl) (by kernel_rfl) (fun _ _ _ h => h) (Or.inl ⟨by kernel_rfl, ?_⟩) ?_
          rotate_left
          · intro w; go_simp; try (with_reducible rfl)
          rotate_left
          refine wpAny_take (i := 18) (v := ?_) rfl (by kernel_rfl) (by kernel_rfl) (by kernel_rfl) (fun _ _ _ h => h) (Or.inl ⟨by kernel_rfl, ?_⟩) ?_
          rotate_left
          · intro w; go_simp; try (with_reducible rfl)
          rotate_left
          refine wpAny_ready (rs := [19]) (by kernel_rfl) (by simp) ?_
          refine AllReady.cons rfl (fun K hK => ?_) AllReady.nil
          go_simp
          refine hK _ _ ?_
          clear hK K
          refine wpAny_done (by kernel_rfl) ?_ _
          go_wp2
          go_meet
          have hf := leafR N.out B2.out BB29.out OO29.out SS29.out (by have := LE.out; simp; omega) X4.out X6.out
          exact ⟨rfl, rfl, _, ⟨by rw [ER.out]; exact hf.1, hf.2.1, hf.2.2.1, hf.2.2.2.1, hf.2.2.2.2.1, hf.2.2.2.2.2⟩⟩
      · go_simp
        refine hK _ _ ?_
        clear hK K
        refine wpAny_take (i := 15) (v := ?_) rfl (by kernel_rfl) (by kernel_rfl) (by kernel_rfl) (fun _ _ _ h => h) (Or.inl ⟨by kernel_rfl, ?_⟩) ?_
        rotate_left
        · intro w; go_simp; try (with_reducible rfl)
        rotate_left
        refine wpAny_ready (rs := [1, 5]) (by kernel_rfl) (by simp) ?_
        refine AllReady.cons rfl (fun K hK => ?_) (AllReady.cons rfl (fun K hK => ?_) AllReady.nil)
        · go_simp
          refine hK _ _ ?_
          clear hK K
          have OO32 := Aside0.mk (show OwnL w2.heap.size (.slice (some ⟨w2.heap.size, 0, none⟩) 0 0) [] (w2.alloc (.cells #[] 36)) from World.ownsRow_made w2 #[] 0 (BB0.out.size) (Nat.zero_le _) rfl)
          have BB32 := Aside0.mk (show Below w2.heap.size w2 (w2.alloc (.cells #[] 36)) from below_alloc BB0.out (.cells #[] 36))
          have cc32 : (w2.alloc (.cells #[] 36)).cell? ⟨g, 1, none⟩ = some (.slice (some ⟨g', 0, none⟩) xs.length cap) := (blk_cell (N3.out.below BB32.out).blk 1).trans rfl
          have RR32 := Aside0.mk (RowL.below RX.out BB32.out)
          have SS32 := Aside0.mk (show ∃ b, (Value.slice (some ⟨w2.heap.size, 0, none⟩) 0 0).ownBlock = some b ∧ w2.heap.size ≤ b from ⟨_, rfl, BB0.out.size⟩)
          refine wpAny_ready (rs := [5]) (by kernel_rfl) (by simp) ?_
          refine AllReady.cons rfl (fun K hK => ?_) AllReady.nil
          go_simp
          refine hK _ _ ?_
          clear hK K
          refine wpAny_take (i := 7) (v := ?_) rfl (by kernel_rfl) (by kernel_rfl) (by kernel_rfl) (fun _ _ _ h => h) (Or.inl ⟨by kernel_rfl, ?_⟩) ?_
          rotate_left
          · intro w; go_simp; try (with_reducible rfl)
          rotate_left
          refine wpAny_ready (rs := [8]) (by kernel_rfl) (by simp) ?_
          refine AllReady.cons rfl (fun K hK => ?_) AllReady.nil
          refine step_app2 (ys := xs.take i) rfl _ _ rfl rfl rfl LT.out OO32.out (RowL.take RR32.out i) (by have := LX.out; simp; omega) BB32.out.size ?_
          intro v1 w34a hO1 hg1 hs1
          obtain ⟨A34, n34, k34, rfl⟩ : ∃ A n c, v1 = .slice A n c := (by obtain ⟨A, c, h, _⟩ := OwnL.row hO1; exact ⟨_, _, _, h⟩)
          have OO34 := Aside0.mk hO1
          have BB34 := Aside0.mk (show Below w2.heap.size w2 w34a from BB32.out.grown hg1 BB32.out.size (fun k hk => (OwnL.lt OO32.out k hk).1))
          have cc34 : w34a.cell? ⟨g, 1, none⟩ = some (.slice (some ⟨g', 0, none⟩) xs.length cap) := (blk_cell (N3.out.below BB34.out).blk 1).trans rfl
          have RR34 := Aside0.mk (RowL.below RX.out BB34.out)
          have SS34 := Aside0.mk (sinceR SS32.out hs1 BB32.out.size)
          clear hO1 hg1 hs1
          (try go_simp)
          refine hK _ _ ?_
          clear hK K
          refine wpAny_ready (rs := [16]) (by kernel_rfl) (by simp) ?_
          refine AllReady.cons rfl (fun K hK => ?_) AllReady.nil
          refine step_app2 (ys := xs.drop (i + 1)) rfl _ _ rfl rfl rfl LD.out OO34.out (by rw [DE.out]; exact RowL.none_) (by have := LX.out; simp; omega) BB34.out.size ?_
          intro v1 w35a hO1 hg1 hs1
          obtain ⟨A35, n35, k35, rfl⟩ : ∃ A n c, v1 = .slice A n c := (by obtain ⟨A, c, h, _⟩ := OwnL.row hO1; exact ⟨_, _, _, h⟩)
          have OO35 := Aside0.mk hO1
          have BB35 := Aside0.mk (show Below w2.heap.size w2 w35a from BB34.out.grown hg1 BB34.out.size (fun k hk => (OwnL.lt OO34.out k hk).1))
          have cc35 : w35a.cell? ⟨g, 1, none⟩ = some (.slice (some ⟨g', 0, none⟩) xs.length cap) := (blk_cell (N3.out.below BB35.out).blk 1).trans rfl
          have zz35 : w35a.frozen? ⟨g, 1, none⟩ = false := blk_frozen (N3.out.below BB35.out).blk 1
          have SS35 := Aside0.mk (sinceR SS34.out hs1 BB34.out.size)
          clear hO1 hg1 hs1
          (try go_simp)
          refine hK _ _ ?_
          clear hK K
          refine wpAny_take (i := 17) (v := ?_) rfl (by kernel_rfl) (by kernel_rfl) (by kernel_rfl) (fun _ _ _ h => h) (Or.inl ⟨by kernel_rfl, ?_⟩) ?_
          rotate_left
          · intro w; go_simp; try (with_reducible rfl)
          rotate_left
          refine wpAny_take (i := 18) (v := ?_) rfl (by kernel_rfl) (by kernel_rfl) (by kernel_rfl) (fun _ _ _ h => h) (Or.inl ⟨by kernel_rfl, ?_⟩) ?_
          rotate_left
          · intro w; go_simp; try (with_reducible rfl)
          rotate_left
          refine wpAny_ready (rs := [19]) (by kernel_rfl) (by simp) ?_
          refine AllReady.cons rfl (fun K hK => ?_) AllReady.nil
          go_simp
          refine hK _ _ ?_
          clear hK K
          refine wpAny_done (by kernel_rfl) ?_ _
          go_wp2
          go_meet
          have hf := leafR N.out B2.out BB35.out OO35.out SS35.out (by have := LE.out; simp; omega) X4.out X6.out
          exact ⟨rfl, rfl, _, ⟨by rw [ER.out]; exact hf.1, hf.2.1, hf.2.2.1, hf.2.2.2.1, hf.2.2.2.2.1, hf.2.2.2.2.2⟩⟩
        · go_simp
          refine hK _ _ ?_
          clear hK K
          refine wpAny_take (i := 7) (v := ?_) rfl (by kernel_rfl) (by kernel_rfl) (by kernel_rfl) (fun _ _ _ h => h) (Or.inl ⟨by kernel_rfl, ?_⟩) ?_
          rotate_left
          · intro w; go_simp; try (with_reducible rfl)
          rotate_left
          refine wpAny_ready (rs := [1]) (by kernel_rfl) (by simp) ?_
          refine AllReady.cons rfl (fun K hK => ?_) AllReady.nil
          go_simp
          refine hK _ _ ?_
          clear hK K
          have OO38 := Aside0.mk (show OwnL w2.heap.size (.slice (some ⟨w2.heap.size, 0, none⟩) 0 0) [] (w2.alloc (.cells #[] 36)) from World.ownsRow_made w2 #[] 0 (BB0.out.size) (Nat.zero_le _) rfl)
          have BB38 := Aside0.mk (show Below w2.heap.size w2 (w2.alloc (.cells #[] 36)) from below_alloc BB0.out (.cells #[] 36))
          have cc38 : (w2.alloc (.cells #[] 36)).cell? ⟨g, 1, none⟩ = some (.slice (some ⟨g', 0, none⟩) xs.length cap) := (blk_cell (N3.out.below BB38.out).blk 1).trans rfl
          have RR38 := Aside0.mk (RowL.below RX.out BB38.out)
          have SS38 := Aside0.mk (show ∃ b, (Value.slice (some ⟨w2.heap.size, 0, none⟩) 0 0).ownBlock = some b ∧ w2.heap.size ≤ b from ⟨_, rfl, BB0.out.size⟩)
          refine wpAny_ready (rs := [8]) (by kernel_rfl) (by simp) ?_
          refine AllReady.cons rfl (fun K hK => ?_) AllReady.nil
          refine step_app2 (ys := xs.take i) rfl _ _ rfl rfl rfl LT.out OO38.out (RowL.take RR38.out i) (by have := LX.out; simp; omega) BB38.out.size ?_
          intro v1 w39a hO1 hg1 hs1
          obtain ⟨A39, n39, k39, rfl⟩ : ∃ A n c, v1 = .slice A n c := (by obtain ⟨A, c, h, _⟩ := OwnL.row hO1; exact ⟨_, _, _, h⟩)
          have OO39 := Aside0.mk hO1
          have BB39 := Aside0.mk (show Below w2.heap.size w2 w39a from BB38.out.grown hg1 BB38.out.size (fun k hk => (OwnL.lt OO38.out k hk).1))
          have cc39 : w39a.cell? ⟨g, 1, none⟩ = some (.slice (some ⟨g', 0, none⟩) xs.length cap) := (blk_cell (N3.out.below BB39.out).blk 1).trans rfl
          have RR39 := Aside0.mk (RowL.below RX.out BB39.out)
          have SS39 := Aside0.mk (sinceR SS38.out hs1 BB38.out.size)
          clear hO1 hg1 hs1
          (try go_simp)
          refine hK _ _ ?_
          clear hK K
          refine wpAny_ready (rs := [16]) (by kernel_rfl) (by simp) ?_
          refine AllReady.cons rfl (fun K hK => ?_) AllReady.nil
          refine step_app2 (ys := xs.drop (i + 1)) rfl _ _ rfl rfl rfl LD.out OO39.out (by rw [DE.out]; exact RowL.none_) (by have := LX.out; simp; omega) BB39.out.size ?_
          intro v1 w40a hO1 hg1 hs1
          obtain ⟨A40, n40, k40, rfl⟩ : ∃ A n c, v1 = .slice A n c := (by obtain ⟨A, c, h, _⟩ := OwnL.row hO1; exact ⟨_, _, _, h⟩)
          have OO40 := Aside0.mk hO1
          have BB40 := Aside0.mk (show Below w2.heap.size w2 w40a from BB39.out.grown hg1 BB39.out.size (fun k hk => (OwnL.lt OO39.out k hk).1))
          have cc40 : w40a.cell? ⟨g, 1, none⟩ = some (.slice (some ⟨g', 0, none⟩) xs.length cap) := (blk_cell (N3.out.below BB40.out).blk 1).trans rfl
          have zz40 : w40a.frozen? ⟨g, 1, none⟩ = false := blk_frozen (N3.out.below BB40.out).blk 1
          have SS40 := Aside0.mk (sinceR SS39.out hs1 BB39.out.size)
          clear hO1 hg1 hs1
          (try go_simp)
          refine hK _ _ ?_
          clear hK K
          refine wpAny_take (i := 17) (v := ?_) rfl (by kernel_rfl) (by kernel_rfl) (by kernel_rfl) (fun _ _ _ h => h) (Or.inl ⟨by kernel_rfl, ?_⟩) ?_
          rotate_left
          · intro w; go_simp; try (with_reducible rfl)
          rotate_left
          refine wpAny_take (i := 18) (v := ?_) rfl (by kernel_rfl) (by kernel_rfl) (by kernel_rfl) (fun _ _ _ h => h) (Or.inl ⟨by kernel_rfl, ?_⟩) ?_
          rotate_left
          · intro w; go_simp; try (with_reducible rfl)
          rotate_left
          refine wpAny_ready (rs := [19]) (by kernel_rfl) (by simp) ?_
          refine AllReady.cons rfl (fun K hK => ?_) AllReady.nil
          go_simp
          refine hK _ _ ?_
          clear hK K
          refine wpAny_done (by kernel_rfl) ?_ _
          go_wp2
          go_meet
          have hf := leafR N.out B2.out BB40.out OO40.out SS40.out (by have := LE.out; simp; omega) X4.out X6.out
          exact ⟨rfl, rfl, _, ⟨by rw [ER.out]; exact hf.1, hf.2.1, hf.2.2.1, hf.2.2.2.1, hf.2.2.2.2.1, hf.2.2.2.2.2⟩⟩
    case rest =>
      obtain ⟨rfl, rfl, vr, hf⟩ := hcut
      have hlt2 : w.heap.size + 1 < wc.heap.size := blk_lt hf.out.2.2.2.2.1
      obtain ⟨w4, rfl⟩ : ∃ x : World, x = wc := ⟨_, rfl⟩
      clear c1 e0 e1 e2 e3 e4 e5 e6 e7 e8 e9 e10
      have fa0 : w4.cell? ⟨w.heap.size + 1, 0, none⟩ = some (.int .i64 k1) := (blk_cell hf.out.2.2.2.2.1 0).trans rfl
      have fa1 : w4.cell? ⟨w.heap.size + 1, 1, none⟩ = some (.int .i64 f1) := (blk_cell hf.out.2.2.2.2.1 1).trans rfl
      have fa2 : w4.cell? ⟨w.heap.size + 1, 2, none⟩ = some (.int .i64 t1) := (blk_cell hf.out.2.2.2.2.1 2).trans rfl
      have fa3 : w4.cell? ⟨w.heap.size + 1, 3, none⟩ = some (.int .i64 b1) := (blk_cell hf.out.2.2.2.2.1 3).trans rfl
      have fa4 : w4.cell? ⟨w.heap.size + 1, 4, none⟩ = some (.int .i64 s1) := (blk_cell hf.out.2.2.2.2.1 4).trans rfl
      have fa5 : w4.cell? ⟨w.heap.size + 1, 5, none⟩ = some (.int .i64 wh1) := (blk_cell hf.out.2.2.2.2.1 5).trans rfl
      have fa6 : w4.cell? ⟨w.heap.size + 1, 6, none⟩ = some (.bool wr1) := (blk_cell hf.out.2.2.2.2.1 6).trans rfl
      have fa7 : w4.cell? ⟨w.heap.size + 1, 7, none⟩ = some (.int .i64 cn1) := (blk_cell hf.out.2.2.2.2.1 7).trans rfl
      have fa8 : w4.cell? ⟨w.heap.size + 1, 8, none⟩ = some (.bool o1) := (blk_cell hf.out.2.2.2.2.1 8).trans rfl
      have fa9 : w4.cell? ⟨w.heap.size + 1, 9, none⟩ = some (.bool h1) := (blk_cell hf.out.2.2.2.2.1 9).trans rfl
      have fa10 : w4.cell? ⟨w.heap.size + 1, 10, none⟩ = some (.int .i64 d1) := (blk_cell hf.out.2.2.2.2.1 10).trans rfl
      have pa0 : w4.cell? ⟨w.heap.size, 0, none⟩ = some (.int .i64 0) := (blk_cell hf.out.2.2.2.1 0).trans rfl
      have ra0 : w4.frozen? ⟨w.heap.size, 0, none⟩ = false := blk_frozen hf.out.2.2.2.1 0
      have pa1 : w4.cell? ⟨w.heap.size, 1, none⟩ = some (.int .i64 0) := (blk_cell hf.out.2.2.2.1 1).trans rfl
      have ra1 : w4.frozen? ⟨w.heap.size, 1, none⟩ = false := blk_frozen hf.out.2.2.2.1 1
      have pa2 : w4.cell? ⟨w.heap.size, 2, none⟩ = some (.int .i64 0) := (blk_cell hf.out.2.2.2.1 2).trans rfl
      have ra2 : w4.frozen? ⟨w.heap.size, 2, none⟩ = false := blk_frozen hf.out.2.2.2.1 2
      have pa3 : w4.cell? ⟨w.heap.size, 3, none⟩ = some (.int .i64 0) := (blk_cell hf.out.2.2.2.1 3).trans rfl
      have ra3 : w4.frozen? ⟨w.heap.size, 3, none⟩ = false := blk_frozen hf.out.2.2.2.1 3
      have pa4 : w4.cell? ⟨w.heap.size, 4, none⟩ = some (.int .i64 0) := (blk_cell hf.out.2.2.2.1 4).trans rfl
      have ra4 : w4.frozen? ⟨w.heap.size, 4, none⟩ = false := blk_frozen hf.out.2.2.2.1 4
      have pa5 : w4.cell? ⟨w.heap.size, 5, none⟩ = some (.int .i64 0) := (blk_cell hf.out.2.2.2.1 5).trans rfl
      have ra5 : w4.frozen? ⟨w.heap.size, 5, none⟩ = false := blk_frozen hf.out.2.2.2.1 5
      have pa6 : w4.cell? ⟨w.heap.size, 6, none⟩ = some (.bool false) := (blk_cell hf.out.2.2.2.1 6).trans rfl
      have ra6 : w4.frozen? ⟨w.heap.size, 6, none⟩ = false := blk_frozen hf.out.2.2.2.1 6
      have pa7 : w4.cell? ⟨w.heap.size, 7, none⟩ = some (.int .i64 0) := (blk_cell hf.out.2.2.2.1 7).trans rfl
      have ra7 : w4.frozen? ⟨w.heap.size, 7, none⟩ = false := blk_frozen hf.out.2.2.2.1 7
      have pa8 : w4.cell? ⟨w.heap.size, 8, none⟩ = some (.bool false) := (blk_cell hf.out.2.2.2.1 8).trans rfl
      have ra8 : w4.frozen? ⟨w.heap.size, 8, none⟩ = false := blk_frozen hf.out.2.2.2.1 8
      have pa9 : w4.cell? ⟨w.heap.size, 9, none⟩ = some (.bool false) := (blk_cell hf.out.2.2.2.1 9).trans rfl
      have ra9 : w4.frozen? ⟨w.heap.size, 9, none⟩ = false := blk_frozen hf.out.2.2.2.1 9
      have pa10 : w4.cell? ⟨w.heap.size, 10, none⟩ = some (.int .i64 0) := (blk_cell hf.out.2.2.2.1 10).trans rfl
      have ra10 : w4.frozen? ⟨w.heap.size, 10, none⟩ = false := blk_frozen hf.out.2.2.2.1 10
      go_wp2
      have CH := Aside0.mk (show Chg w.heap.size none w4 (((((((((((w4.setCell ⟨w.heap.size, 0, none⟩ (.int .i64 k1)).setCell ⟨w.heap.size, 1, none⟩ (.int .i64 f1)).setCell ⟨w.heap.size, 2, none⟩ (.int .i64 t1)).setCell ⟨w.heap.size, 3, none⟩ (.int .i64 b1)).setCell ⟨w.heap.size, 4, none⟩ (.int .i64 s1)).setCell ⟨w.heap.size, 5, none⟩ (.int .i64 wh1)).setCell ⟨w.heap.size, 6, none⟩ (.bool wr1)).setCell ⟨w.heap.size, 7, none⟩ (.int .i64 cn1)).setCell ⟨w.heap.size, 8, none⟩ (.bool o1)).setCell ⟨w.heap.size, 9, none⟩ (.bool h1)).setCell ⟨w.heap.size, 10, none⟩ (.int .i64 d1)) from ((((((((((((Chg.refl _ _ _).set 0 _).set 1 _).set 2 _).set 3 _).set 4 _).set 5 _).set 6 _).set 7 _).set 8 _).set 9 _).set 10 _))
      have CG := Aside0.mk (show Chg g (some g') w (((((((((((w4.setCell ⟨w.heap.size, 0, none⟩ (.int .i64 k1)).setCell ⟨w.heap.size, 1, none⟩ (.int .i64 f1)).setCell ⟨w.heap.size, 2, none⟩ (.int .i64 t1)).setCell ⟨w.heap.size, 3, none⟩ (.int .i64 b1)).setCell ⟨w.heap.size, 4, none⟩ (.int .i64 s1)).setCell ⟨w.heap.size, 5, none⟩ (.int .i64 wh1)).setCell ⟨w.heap.size, 6, none⟩ (.bool wr1)).setCell ⟨w.heap.size, 7, none⟩ (.int .i64 cn1)).setCell ⟨w.heap.size, 8, none⟩ (.bool o1)).setCell ⟨w.heap.size, 9, none⟩ (.bool h1)).setCell ⟨w.heap.size, 10, none⟩ (.int .i64 d1)) by
        have CG0 : Chg g (some g') w w4 := hf.out.2.1
        exact (Chg.setNew (Chg.setNew (Chg.setNew (Chg.setNew (Chg.setNew (Chg.setNew (Chg.setNew (Chg.setNew (Chg.setNew (Chg.setNew (Chg.setNew CG0 (Nat.le_refl _) 0 _) (Nat.le_refl _) 1 _) (Nat.le_refl _) 2 _) (Nat.le_refl _) 3 _) (Nat.le_refl _) 4 _) (Nat.le_refl _) 5 _) (Nat.le_refl _) 6 _) (Nat.le_refl _) 7 _) (Nat.le_refl _) 8 _) (Nat.le_refl _) 9 _) (Nat.le_refl _) 10 _))
      have H5 : ((((((((((((w4.setCell ⟨w.heap.size, 0, none⟩ (.int .i64 k1)).setCell ⟨w.heap.size, 1, none⟩ (.int .i64 f1)).setCell ⟨w.heap.size, 2, none⟩ (.int .i64 t1)).setCell ⟨w.heap.size, 3, none⟩ (.int .i64 b1)).setCell ⟨w.heap.size, 4, none⟩ (.int .i64 s1)).setCell ⟨w.heap.size, 5, none⟩ (.int .i64 wh1)).setCell ⟨w.heap.size, 6, none⟩ (.bool wr1)).setCell ⟨w.heap.size, 7, none⟩ (.int .i64 cn1)).setCell ⟨w.heap.size, 8, none⟩ (.bool o1)).setCell ⟨w.heap.size, 9, none⟩ (.bool h1)).setCell ⟨w.heap.size, 10, none⟩ (.int .i64 d1))).heap[w.heap.size]? = some (.cells #[.int .i64 k1, .int .i64 f1, .int .i64 t1, .int .i64 b1, .int .i64 s1, .int .i64 wh1, .bool wr1, .int .i64 cn1, .bool o1, .bool h1, .int .i64 d1] 36) := by have := (blk_set (blk_set (blk_set (blk_set (blk_set (blk_set (blk_set (blk_set (blk_set (blk_set (blk_set hf.out.2.2.2.1 0 (.int .i64 k1)) 1 (.int .i64 f1)) 2 (.int .i64 t1)) 3 (.int .i64 b1)) 4 (.int .i64 s1)) 5 (.int .i64 wh1)) 6 (.bool wr1)) 7 (.int .i64 cn1)) 8 (.bool o1)) 9 (.bool h1)) 10 (.int .i64 d1)); simpa using this
      clear fa0 fa1 fa2 fa3 fa4 fa5 fa6 fa7 fa8 fa9 fa10 pa0 pa1 pa2 pa3 pa4 pa5 pa6 pa7 pa8 pa9 pa10 ra0 ra1 ra2 ra3 ra4 ra5 ra6 ra7 ra8 ra9 ra10
      generalize (((((((((((w4.setCell ⟨w.heap.size, 0, none⟩ (.int .i64 k1)).setCell ⟨w.heap.size, 1, none⟩ (.int .i64 f1)).setCell ⟨w.heap.size, 2, none⟩ (.int .i64 t1)).setCell ⟨w.heap.size, 3, none⟩ (.int .i64 b1)).setCell ⟨w.heap.size, 4, none⟩ (.int .i64 s1)).setCell ⟨w.heap.size, 5, none⟩ (.int .i64 wh1)).setCell ⟨w.heap.size, 6, none⟩ (.bool wr1)).setCell ⟨w.heap.size, 7, none⟩ (.int .i64 cn1)).setCell ⟨w.heap.size, 8, none⟩ (.bool o1)).setCell ⟨w.heap.size, 9, none⟩ (.bool h1)).setCell ⟨w.heap.size, 10, none⟩ (.int .i64 d1)) = w5 at *
      have va0 : w5.cell? ⟨w.heap.size, 0, none⟩ = some (.int .i64 k1) := (blk_cell H5 0).trans rfl
      have va1 : w5.cell? ⟨w.heap.size, 1, none⟩ = some (.int .i64 f1) := (blk_cell H5 1).trans rfl
      have va2 : w5.cell? ⟨w.heap.size, 2, none⟩ = some (.int .i64 t1) := (blk_cell H5 2).trans rfl
      have va3 : w5.cell? ⟨w.heap.size, 3, none⟩ = some (.int .i64 b1) := (blk_cell H5 3).trans rfl
      have va4 : w5.cell? ⟨w.heap.size, 4, none⟩ = some (.int .i64 s1) := (blk_cell H5 4).trans rfl
      have va5 : w5.cell? ⟨w.heap.size, 5, none⟩ = some (.int .i64 wh1) := (blk_cell H5 5).trans rfl
      have va6 : w5.cell? ⟨w.heap.size, 6, none⟩ = some (.bool wr1) := (blk_cell H5 6).trans rfl
      have va7 : w5.cell? ⟨w.heap.size, 7, none⟩ = some (.int .i64 cn1) := (blk_cell H5 7).trans rfl
      have va8 : w5.cell? ⟨w.heap.size, 8, none⟩ = some (.bool o1) := (blk_cell H5 8).trans rfl
      have va9 : w5.cell? ⟨w.heap.size, 9, none⟩ = some (.bool h1) := (blk_cell H5 9).trans rfl
      have va10 : w5.cell? ⟨w.heap.size, 10, none⟩ = some (.int .i64 d1) := (blk_cell H5 10).trans rfl
      refine bodyPost_ret (v := .tuple #[letV (k1, f1, t1, b1, s1, wh1, wr1, cn1, o1, h1, d1), .bool true]) (by simp [results, Try.results24, go_sem, va0, va1, va2, va3, va4, va5, va6, va7, va8, va9, va10]; try rfl) rfl ?_
      have hsz := N.out.bel.size
      have hg4 := hlt.out
      exact ⟨_, rfl, hf.out.1.other CH.out (by omega) hf.out.2.2.2.2.2 hsz, CG.out, hf.out.2.2.1⟩
  · have hc2 : i + 1 < cap := by omega
    go_enter Try.func24, Try.ntmps24
    go_upto_region 5 with fail
    go_cut [4, 6] (fun v4 v6 wx => v4 = .pointer (some ⟨w.heap.size, 0, none⟩) ∧ v6 = .pointer (some ⟨w.heap.size + 1, 0, none⟩) ∧ ∃ v', Aside0 (NetAt 47 rm (xs.eraseIdx i) v' g w0 wx ∧ Chg g (some g') w wx ∧ Since w.heap.size (.slice (some ⟨g', 0, none⟩) xs.length cap) v' ∧ wx.heap[w.heap.size]? = some (.cells #[.int .i64 0, .int .i64 0, .int .i64 0, .int .i64 0, .int .i64 0, .int .i64 0, .bool false, .int .i64 0, .bool false, .bool false, .int .i64 0] 36) ∧ wx.heap[w.heap.size + 1]? = some (.cells #[.int .i64 k1, .int .i64 f1, .int .i64 t1, .int .i64 b1, .int .i64 s1, .int .i64 wh1, .bool wr1, .int .i64 cn1, .bool o1, .bool h1, .int .i64 d1] 36) ∧ v'.ownBlock ≠ some w.heap.size))
    case first =>
      go_wp2_with fail
      refine wp_region_any (by kernel_rfl) ?_
      (try (change wpAny _ _ _ _ _ _ _ (World.drew _)))
      generalize hw2 : World.drew _ = w2
      have B2 := Aside0.mk (show Below w.heap.size w w2 from by rw [← hw2]; exact Below.drew HB.out)
      have N3 := Aside0.mk (show NetAt 47 rm xs _ g w0 w2 from N.out.below B2.out)
      have X4 := Aside0.mk (show w2.heap[w.heap.size]? = some (.cells #[.int .i64 0, .int .i64 0, .int .i64 0, .int .i64 0, .int .i64 0, .int .i64 0, .bool false, .int .i64 0, .bool false, .bool false, .int .i64 0] 36) from by rw [← hw2]; exact blk_drew X4.out)
      have X6 := Aside0.mk (show w2.heap[w.heap.size + 1]? = some (.cells #[.int .i64 k1, .int .i64 f1, .int .i64 t1, .int .i64 b1, .int .i64 s1, .int .i64 wh1, .bool wr1, .int .i64 cn1, .bool o1, .bool h1, .int .i64 d1] 36) from by rw [← hw2]; have := blk_drew X6.out; simpa using this)
      have RX := Aside0.mk (RowL.below RX.out B2.out)
      have HS := Aside0.mk (show w.heap.size ≤ w2.heap.size from B2.out.size)
      clear hw2
      have BB0 := Aside0.mk (Below.refl w2.heap.size w2)
      have cc0 : w2.cell? ⟨g, 1, none⟩ = some (.slice (some ⟨g', 0, none⟩) xs.length cap) := (blk_cell N3.out.blk 1).trans rfl
      refine wpAny_take (i := 0) (v := ?_) rfl (by kernel_rfl) (by kernel_rfl) (by kernel_rfl) (fun _ _ _ h => h) (Or.inl ⟨by kernel_rfl, ?_⟩) ?_
      rotate_left
      · intro w; go_simp; try (with_reducible rfl)
      rotate_left
      refine wpAny_take (i := 2) (v := ?_) rfl (by kernel_rfl) (by kernel_rfl) (by kernel_rfl) (fun _ _ _ h => h) (Or.inl ⟨by kernel_rfl, ?_⟩) ?_
      rotate_left
      · intro w; go_simp; try (with_reducible rfl)
      rotate_left
      refine wpAny_take (i := 3) (v := ?_) rfl (by kernel_rfl) (by kernel_rfl) (by kernel_rfl) (fun _ _ _ h => h) (Or.inl ⟨by kernel_rfl, ?_⟩) ?_
      rotate_left
      · intro w; go_simp; try (with_reducible rfl)
      rotate_left
      refine wpAny_take (i := 4) (v := ?_) rfl (by kernel_rfl) (by kernel_rfl) (by kernel_rfl) (fun _ _ _ h => h) (Or.inl ⟨by kernel_rfl, ?_⟩) ?_
      rotate_left
      · intro w; go_simp; try (with_reducible rfl)
      rotate_left
      refine wpAny_take (i := 6) (v := ?_) rfl (by kernel_rfl) (by kernel_rfl) (by kernel_rfl) (fun _ _ _ h => h) (Or.inl ⟨by kernel_rfl, ?_⟩) ?_
      rotate_left
      · intro w; go_simp; try (with_reducible rfl)
      rotate_left
      refine wpAny_take (i := 9) (v := ?_) rfl (by kernel_rfl) (by kernel_rfl) (by kernel_rfl) (fun _ _ _ h => h) (Or.inl ⟨by kernel_rfl, ?_⟩) ?_
      rotate_left
      · intro w; go_simp; try (with_reducible rfl)
      rotate_left
      refine wpAny_take (i := 10) (v := ?_) rfl (by kernel_rfl) (by kernel_rfl) (by kernel_rfl) (fun _ _ _ h => h) (Or.inl ⟨by kernel_rfl, ?_⟩) ?_
      rotate_left
      · intro w; go_simp; try (with_reducible rfl)
      rotate_left
      refine wpAny_take (i := 11) (v := ?_) rfl (by kernel_rfl) (by kernel_rfl) (by kernel_rfl) (fun _ _ _ h => h) (Or.inl ⟨by kernel_rfl, ?_⟩) ?_
      rotate_left
      · intro w; go_simp; try (with_reducible rfl)
      rotate_left
      refine wpAny_take (i := 13) (v := ?_) rfl (by kernel_rfl) (by kernel_rfl) (by kernel_rfl) (fun _ _ _ h => h) (Or.inl ⟨by kernel_rfl, ?_⟩) ?_
      rotate_left
      · intro w; go_simp; try (with_reducible rfl)
      rotate_left
      refine wpAny_take (i := 14) (v := ?_) rfl (by kernel_rfl) (by kernel_rfl) (by kernel_rfl) (fun _ _ _ h => h) (Or.inl ⟨by kernel_rfl, ?_⟩) ?_
      rotate_left
      · intro w; go_simp; try (with_reducible rfl)
      rotate_left
      refine wpAny_ready (rs := [1, 5, 12]) (by kernel_rfl) (by simp) ?_
      refine AllReady.cons rfl (fun K hK => ?_) (AllReady.cons rfl (fun K hK => ?_) (AllReady.cons rfl (fun K hK => ?_) AllReady.nil))
      · go_simp
        refine hK _ _ ?_
        clear hK K
        have OO1 := Aside0.mk (show OwnL w2.heap.size (.slice (some ⟨w2.heap.size, 0, none⟩) 0 0) [] (w2.alloc (.cells #[] 36)) from World.ownsRow_made w2 #[] 0 (BB0.out.size) (Nat.zero_le _) rfl)
        have BB1 := Aside0.mk (show Below w2.heap.size w2 (w2.alloc (.cells #[] 36)) from below_alloc BB0.out (.cells #[] 36))
        have cc1 : (w2.alloc (.cells #[] 36)).cell? ⟨g, 1, none⟩ = some (.slice (some ⟨g', 0, none⟩) xs.length cap) := (blk_cell (N3.out.below BB1.out).blk 1).trans rfl
        have RR1 := Aside0.mk (RowL.below RX.out BB1.out)
        have SS1 := Aside0.mk (show ∃ b, (Value.slice (some ⟨w2.heap.size, 0, none⟩) 0 0).ownBlock = some b ∧ w2.heap.size ≤ b from ⟨_, rfl, BB0.out.size⟩)
        refine wpAny_ready (rs := [5, 12]) (by kernel_rfl) (by simp) ?_
        refine AllReady.cons rfl (fun K hK => ?_) (AllReady.cons rfl (fun K hK => ?_) AllReady.nil)
        · go_simp
          refine hK _ _ ?_
          clear hK K
          refine wpAny_take (i := 7) (v := ?_) rfl (by kernel_rfl) (by kernel_rfl) (by kernel_rfl) (fun _ _ _ h => h) (Or.inl ⟨by kernel_rfl, ?_⟩) ?_
          rotate_left
          · intro w; go_simp; try (with_reducible rfl)
          rotate_left
          refine wpAny_ready (rs := [8, 12]) (by kernel_rfl) (by simp) ?_
          refine AllReady.cons rfl (fun K hK => ?_) (AllReady.cons rfl (fun K hK => ?_) AllReady.nil)
          · refine step_app2 (ys := xs.take i) rfl _ _ rfl rfl rfl LT.out OO1.out (RowL.take RR1.out i) (by have := LX.out; simp; omega) BB1.out.size ?_
            intro v1 w3a hO1 hg1 hs1
            obtain ⟨A3, n3, k3, rfl⟩ : ∃ A n c, v1 = .slice A n c := (by obtain ⟨A, c, h, _⟩ := OwnL.row hO1; exact ⟨_, _, _, h⟩)
            have OO3 := Aside0.mk hO1
            have BB3 := Aside0.mk (show Below w2.heap.size w2 w3a from BB1.out.grown hg1 BB1.out.size (fun k hk => (OwnL.lt OO1.out k hk).1))
            have cc3 : w3a.cell? ⟨g, 1, none⟩ = some (.slice (some ⟨g', 0, none⟩) xs.length cap) := (blk_cell (N3.out.below BB3.out).blk 1).trans rfl
            have RR3 := Aside0.mk (RowL.below RX.out BB3.out)
            have SS3 := Aside0.mk (sinceR SS1.out hs1 BB1.out.size)
            clear hO1 hg1 hs1
            (try go_simp)
            refine hK _ _ ?_
            clear hK K
            refine wpAny_ready (rs := [12]) (by kernel_rfl) (by simp) ?_
            refine AllReady.cons rfl (fun K hK => ?_) AllReady.nil
            go_simp
            refine hK _ _ ?_
            clear hK K
            refine wpAny_take (i := 15) (v := ?_) rfl (by kernel_rfl) (by kernel_rfl) (by kernel_rfl) (fun _ _ _ h => h) (Or.inl ⟨by kernel_rfl, ?_⟩) ?_
            rotate_left
            · intro w; go_simp; try (with_reducible rfl)
            rotate_left
            refine wpAny_ready (rs := [16]) (by kernel_rfl) (by simp) ?_
            refine AllReady.cons rfl (fun K hK => ?_) AllReady.nil
            refine step_app2 (ys := xs.drop (i + 1)) rfl _ _ rfl rfl rfl LD.out OO3.out (dropR RR3.out (i + 1)) (by have := LX.out; simp; omega) BB3.out.size ?_
            intro v1 w5a hO1 hg1 hs1
            obtain ⟨A5, n5, k5, rfl⟩ : ∃ A n c, v1 = .slice A n c := (by obtain ⟨A, c, h, _⟩ := OwnL.row hO1; exact ⟨_, _, _, h⟩)
            have OO5 := Aside0.mk hO1
            have BB5 := Aside0.mk (show Below w2.heap.size w2 w5a from BB3.out.grown hg1 BB3.out.size (fun k hk => (OwnL.lt OO3.out k hk).1))
            have cc5 : w5a.cell? ⟨g, 1, none⟩ = some (.slice (some ⟨g', 0, none⟩) xs.length cap) := (blk_cell (N3.out.below BB5.out).blk 1).trans rfl
            have zz5 : w5a.frozen? ⟨g, 1, none⟩ = false := blk_frozen (N3.out.below BB5.out).blk 1
            have SS5 := Aside0.mk (sinceR SS3.out hs1 BB3.out.size)
            clear hO1 hg1 hs1
            (try go_simp)
            refine hK _ _ ?_
            clear hK K
            refine wpAny_take (i := 17) (v := ?_) rfl (by kernel_rfl) (by kernel_rfl) (by kernel_rfl) (fun _ _ _ h => h) (Or.inl ⟨by kernel_rfl, ?_⟩) ?_
            rotate_left
            · intro w; go_simp; try (with_reducible rfl)
            rotate_left
            refine wpAny_take (i := 18) (v := ?_) rfl (by kernel_rfl) (by kernel_rfl) (by kernel_rfl) (fun _ _ _ h => h) (Or.inl ⟨by kernel_rfl, ?_⟩) ?_
            rotate_left
            · intro w; go_simp; try (with_reducible rfl)
            rotate_left
            refine wpAny_ready (rs := [19]) (by kernel_rfl) (by simp) ?_
            refine AllReady.cons rfl (fun K hK => ?_) AllReady.nil
            go_simp
            refine hK _ _ ?_
            clear hK K
            refine wpAny_done (by kernel_rfl) ?_ _
            go_wp2
            go_meet
            have hf := leafR N.out B2.out BB5.out OO5.out SS5.out (by have := LE.out; simp; omega) X4.out X6.out
            exact ⟨rfl, rfl, _, ⟨by rw [ER.out]; exact hf.1, hf.2.1, hf.2.2.1, hf.2.2.2.1, hf.2.2.2.2.1, hf.2.2.2.2.2⟩⟩
          · go_simp
            refine hK _ _ ?_
            clear hK K
            refine wpAny_take (i := 15) (v := ?_) rfl (by kernel_rfl) (by kernel_rfl) (by kernel_rfl) (fun _ _ _ h => h) (Or.inl ⟨by kernel_rfl, ?_⟩) ?_
            rotate_left
            · intro w; go_simp; try (with_reducible rfl)
            rotate_left
            refine wpAny_ready (rs := [8]) (by kernel_rfl) (by simp) ?_
            refine AllReady.cons rfl (fun K hK => ?_) AllReady.nil
            refine step_app2 (ys := xs.take i) rfl _ _ rfl rfl rfl LT.out OO1.out (RowL.take RR1.out i) (by have := LX.out; simp; omega) BB1.out.size ?_
            intro v1 w8a hO1 hg1 hs1
            obtain ⟨A8, n8, k8, rfl⟩ : ∃ A n c, v1 = .slice A n c := (by obtain ⟨A, c, h, _⟩ := OwnL.row hO1; exact ⟨_, _, _, h⟩)
            have OO8 := Aside0.mk hO1
            have BB8 := Aside0.mk (show Below w2.heap.size w2 w8a from BB1.out.grown hg1 BB1.out.size (fun k hk => (OwnL.lt OO1.out k hk).1))
            have cc8 : w8a.cell? ⟨g, 1, none⟩ = some (.slice (some ⟨g', 0, none⟩) xs.length cap) := (blk_cell (N3.out.below BB8.out).blk 1).trans rfl
            have RR8 := Aside0.mk (RowL.below RX.out BB8.out)
            have SS8 := Aside0.mk (sinceR SS1.out hs1 BB1.out.size)
            clear hO1 hg1 hs1
            (try go_simp)
            refine hK _ _ ?_
            clear hK K
            refine wpAny_ready (rs := [16]) (by kernel_rfl) (by simp) ?_
            refine AllReady.cons rfl (fun K hK => ?_) AllReady.nil
            refine step_app2 (ys := xs.drop (i + 1)) rfl _ _ rfl rfl rfl LD.out OO8.out (dropR RR8.out (i + 1)) (by have := LX.out; simp; omega) BB8.out.size ?_
            intro v1 w9a hO1 hg1 hs1
            obtain ⟨A9, n9, k9, rfl⟩ : ∃ A n c, v1 = .slice A n c := (by obtain ⟨A, c, h, _⟩ := OwnL.row hO1; exact ⟨_, _, _, h⟩)
            have OO9 := Aside0.mk hO1
            have BB9 := Aside0.mk (show Below w2.heap.size w2 w9a from BB8.out.grown hg1 BB8.out.size (fun k hk => (OwnL.lt OO8.out k hk).1))
            have cc9 : w9a.cell? ⟨g, 1, none⟩ = some (.slice (some ⟨g', 0, none⟩) xs.length cap) := (blk_cell (N3.out.below BB9.out).blk 1).trans rfl
            have zz9 : w9a.frozen? ⟨g, 1, none⟩ = false := blk_frozen (N3.out.below BB9.out).blk 1
            have SS9 := Aside0.mk (sinceR SS8.out hs1 BB8.out.size)
            clear hO1 hg1 hs1
            (try go_simp)
            refine hK _ _ ?_
            clear hK K
            refine wpAny_take (i := 17) (v := ?_) rfl (by kernel_rfl) (by kernel_rfl) (by kernel_rfl) (fun _ _ _ h => h) (Or.inl ⟨by kernel_rfl, ?_⟩) ?_
            rotate_left
            · intro w; go_simp; try (with_reducible rfl)
            rotate_left
            refine wpAny_take (i := 18) (v := ?_) rfl (by kernel_rfl) (by kernel_rfl) (by kernel_rfl) (fun _ _ _ h => h) (Or.inl ⟨by kernel_rfl, ?_⟩) ?_
            rotate_left
            · intro w; go_simp; try (with_reducible rfl)
            rotate_left
            refine wpAny_ready (rs := [19]) (by kernel_rfl) (by simp) ?_
            refine AllReady.cons rfl (fun K hK => ?_) AllReady.nil
            go_simp
            refine hK _ _ ?_
            clear hK K
            refine wpAny_done (by kernel_rfl) ?_ _
            go_wp2
            go_meet
            have hf := leafR N.out B2.out BB9.out OO9.out SS9.out (by have := LE.out; simp; omega) X4.out X6.out
            exact ⟨rfl, rfl, _, ⟨by rw [ER.out]; exact hf.1, hf.2.1, hf.2.2.1, hf.2.2.2.1, hf.2.2.2.2.1, hf.2.2.2.2.2⟩⟩
        · go_simp
          refine hK _ _ ?_
          clear hK K
          refine wpAny_take (i := 15) (v := ?_) rfl (by kernel_rfl) (by kernel_rfl) (by kernel_rfl) (fun _ _ _ h => h) (Or.inl ⟨by kernel_rfl, ?_⟩) ?_
          rotate_left
          · intro w; go_simp; try (with_reducible rfl)
          rotate_left
          refine wpAny_ready (rs := [5]) (by kernel_rfl) (by simp) ?_
          refine AllReady.cons rfl (fun K hK => ?_) AllReady.nil
          go_simp
          refine hK _ _ ?_
          clear hK K
          refine wpAny_take (i := 7) (v := ?_) rfl (by kernel_rfl) (by kernel_rfl) (by kernel_rfl) (fun _ _ _ h => h) (Or.inl ⟨by kernel_rfl, ?_⟩) ?_
          rotate_left
          · intro w; go_simp; try (with_reducible rfl)
          rotate_left
          refine wpAny_ready (rs := [8]) (by kernel_rfl) (by simp) ?_
          refine AllReady.cons rfl (fun K hK => ?_) AllReady.nil
          refine step_app2 (ys := xs.take i) rfl _ _ rfl rfl rfl LT.out OO1.out (RowL.take RR1.out i) (by have := LX.out; simp; omega) BB1.out.size ?_
          intro v1 w13a hO1 hg1 hs1
          obtain ⟨A13, n13, k13, rfl⟩ : ∃ A n c, v1 = .slice A n c := (by obtain ⟨A, c, h, _⟩ := OwnL.row hO1; exact ⟨_, _, _, h⟩)
          have OO13 := Aside0.mk hO1
          have BB13 := Aside0.mk (show Below w2.heap.size w2 w13a from BB1.out.grown hg1 BB1.out.size (fun k hk => (OwnL.lt OO1.out k hk).1))
          have cc13 : w13a.cell? ⟨g, 1, none⟩ = some (.slice (some ⟨g', 0, none⟩) xs.length cap) := (blk_cell (N3.out.below BB13.out).blk 1).trans rfl
          have RR13 := Aside0.mk (RowL.below RX.out BB13.out)
          have SS13 := Aside0.mk (sinceR SS1.out hs1 BB1.out.size)
          clear hO1 hg1 hs1
          (try go_simp)
          refine hK _ _ ?_
          clear hK K
          refine wpAny_ready (rs := [16]) (by kernel_rfl) (by simp) ?_
          refine AllReady.cons rfl (fun K hK => ?_) AllReady.nil
          refine step_app2 (ys := xs.drop (i + 1)) rfl _ _ rfl rfl rfl LD.out OO13.out (dropR RR13.out (i + 1)) (by have := LX.out; simp; omega) BB13.out.size ?_
          intro v1 w14a hO1 hg1 hs1
          obtain ⟨A14, n14, k14, rfl⟩ : ∃ A n c, v1 = .slice A n c := (by obtain ⟨A, c, h, _⟩ := OwnL.row hO1; exact ⟨_, _, _, h⟩)
          have OO14 := Aside0.mk hO1
          have BB14 := Aside0.mk (show Below w2.heap.size w2 w14a from BB13.out.grown hg1 BB13.out.size (fun k hk => (OwnL.lt OO13.out k hk).1))
          have cc14 : w14a.cell? ⟨g, 1, none⟩ = some (.slice (some ⟨g', 0, none⟩) xs.length cap) := (blk_cell (N3.out.below BB14.out).blk 1).trans rfl
          have zz14 : w14a.frozen? ⟨g, 1, none⟩ = false := blk_frozen (N3.out.below BB14.out).blk 1
          have SS14 := Aside0.mk (sinceR SS13.out hs1 BB13.out.size)
          clear hO1 hg1 hs1
          (try go_simp)
          refine hK _ _ ?_
          clear hK K
          refine wpAny_take (i := 17) (v := ?_) rfl (by kernel_rfl) (by kernel_rfl) (by kernel_rfl) (fun _ _ _ h => h) (Or.inl ⟨by kernel_rfl, ?_⟩) ?_
          rotate_left
          · intro w; go_simp; try (with_reducible rfl)
          rotate_left
          refine wpAny_take (i := 18) (v := ?_) rfl (by kernel_rfl) (by kernel_rfl) (by kernel_rfl) (fun _ _ _ h => h) (Or.inl ⟨by kernel_rfl, ?_⟩) ?_
          rotate_left
          · intro w; go_simp; try (with_reducible rfl)
          rotate_left
          refine wpAny_ready (rs := [19]) (by kernel_rfl) (by simp) ?_
          refine AllReady.cons rfl (fun K hK => ?_) AllReady.nil
          go_simp
          refine hK _ _ ?_
          clear hK K
          refine wpAny_done (by kernel_rfl) ?_ _
          go_wp2
          go_meet
          have hf := leafR N.out B2.out BB14.out OO14.out SS14.out (by have := LE.out; simp; omega) X4.out X6.out
          exact ⟨rfl, rfl, _, ⟨by rw [ER.out]; exact hf.1, hf.2.1, hf.2.2.1, hf.2.2.2.1, hf.2.2.2.2.1, hf.2.2.2.2.2⟩⟩
      · go_simp
        refine hK _ _ ?_
        clear hK K
        refine wpAny_take (i := 7) (v := ?_) rfl (by kernel_rfl) (by kernel_rfl) (by kernel_rfl) (fun _ _ _ h => h) (Or.inl ⟨by kernel_rfl, ?_⟩) ?_
        rotate_left
        · intro w; go_simp; try (with_reducible rfl)
        rotate_left
        refine wpAny_ready (rs := [1, 12]) (by kernel_rfl) (by simp) ?_
        refine AllReady.cons rfl (fun K hK => ?_) (AllReady.cons rfl (fun K hK => ?_) AllReady.nil)
        · go_simp
          refine hK _ _ ?_
          clear hK K
          have OO17 := Aside0.mk (show OwnL w2.heap.size (.slice (some ⟨w2.heap.size, 0, none⟩) 0 0) [] (w2.alloc (.cells #[] 36)) from World.ownsRow_made w2 #[] 0 (BB0.out.size) (Nat.zero_le _) rfl)
          have BB17 := Aside0.mk (show Below w2.heap.size w2 (w2.alloc (.cells #[] 36)) from below_alloc BB0.out (.cells #[] 36))
          have cc17 : (w2.alloc (.cells #[] 36)).cell? ⟨g, 1, none⟩ = some (.slice (some ⟨g', 0, none⟩) xs.length cap) := (blk_cell (N3.out.below BB17.out).blk 1).trans rfl
          have RR17 := Aside0.mk (RowL.below RX.out BB17.out)
          have SS17 := Aside0.mk (show ∃ b, (Value.slice (some ⟨w2.heap.size, 0, none⟩) 0 0).ownBlock = some b ∧ w2.heap.size ≤ b from ⟨_, rfl, BB0.out.size⟩)
          refine wpAny_ready (rs := [8, 12]) (by kernel_rfl) (by simp) ?_
          refine AllReady.cons rfl (fun K hK => ?_) (AllReady.cons rfl (fun K hK => ?_) AllReady.nil)
          · refine step_app2 (ys := xs.take i) rfl _ _ rfl rfl rfl LT.out OO17.out (RowL.take RR17.out i) (by have := LX.out; simp; omega) BB17.out.size ?_
            intro v1 w18a hO1 hg1 hs1
            obtain ⟨A18, n18, k18, rfl⟩ : ∃ A n c, v1 = .slice A n c := (by obtain ⟨A, c, h, _⟩ := OwnL.row hO1; exact ⟨_, _, _, h⟩)
            have OO18 := Aside0.mk hO1
            have BB18 := Aside0.mk (show Below w2.heap.size w2 w18a from BB17.out.grown hg1 BB17.out.size (fun k hk => (OwnL.lt OO17.out k hk).1))
            have cc18 : w18a.cell? ⟨g, 1, none⟩ = some (.slice (some ⟨g', 0, none⟩) xs.length cap) := (blk_cell (N3.out.below BB18.out).blk 1).trans rfl
            have RR18 := Aside0.mk (RowL.below RX.out BB18.out)
            have SS18 := Aside0.mk (sinceR SS17.out hs1 BB17.out.size)
            clear hO1 hg1 hs1
            (try go_simp)
            refine hK _ _ ?_
            clear hK K
            refine wpAny_ready (rs := [12]) (by kernel_rfl) (by simp) ?_
            refine AllReady.cons rfl (fun K hK => ?_) AllReady.nil
            go_simp
            refine hK _ _ ?_
            clear hK K
            refine wpAny_take (i := 15) (v := ?_) rfl (by kernel_rfl) (by kernel_rfl) (by kernel_rfl) (fun _ _ _ h => h) (Or.inl ⟨by kernel_rfl, ?_⟩) ?_
            rotate_left
            · intro w; go_simp; try (with_reducible rfl)
            rotate_left
            refine wpAny_ready (rs := [16]) (by kernel_rfl) (by simp) ?_
            refine AllReady.cons rfl (fun K hK => ?_) AllReady.nil
            refine step_app2 (ys := xs.drop (i + 1)) rfl _ _ rfl rfl rfl LD.out OO18.out (dropR RR18.out (i + 1)) (by have := LX.out; simp; omega) BB18.out.size ?_
            intro v1 w20a hO1 hg1 hs1
            obtain ⟨A20, n20, k20, rfl⟩ : ∃ A n c, v1 = .slice A n c := (by obtain ⟨A, c, h, _⟩ := OwnL.row hO1; exact ⟨_, _, _, h⟩)
            have OO20 := Aside0.mk hO1
            have BB20 := Aside0.mk (show Below w2.heap.size w2 w20a from BB18.out.grown hg1 BB18.out.size (fun k hk => (OwnL.lt OO18.out k hk).1))
            have cc20 : w20a.cell? ⟨g, 1, none⟩ = some (.slice (some ⟨g', 0, none⟩) xs.length cap) := (blk_cell (N3.out.below BB20.out).blk 1).trans rfl
            have zz20 : w20a.frozen? ⟨g, 1, none⟩ = false := blk_frozen (N3.out.below BB20.out).blk 1
            have SS20 := Aside0.mk (sinceR SS18.out hs1 BB18.out.size)
            clear hO1 hg1 hs1
            (try go_simp)
            refine hK _ _ ?_
            clear hK K
            refine wpAny_take (i := 17) (v := ?_) rfl (by kernel_rfl) (by kernel_rfl) (by kernel_rfl) (fun _ _ _ h => h) (Or.inl ⟨by kernel_rfl, ?_⟩) ?_
            rotate_left
            · intro w; go_simp; try (with_reducible rfl)
            rotate_left
            refine wpAny_take (i := 18) (v := ?_) rfl (by kernel_rfl) (by kernel_rfl) (by kernel_rfl) (fun _ _ _ h => h) (Or.inl ⟨by kernel_rfl, ?_⟩) ?_
            rotate_left
            · intro w; go_simp; try (with_reducible rfl)
            rotate_left
            refine wpAny_ready (rs := [19]) (by kernel_rfl) (by simp) ?_
            refine AllReady.cons rfl (fun K hK => ?_) AllReady.nil
            go_simp
            refine hK _ _ ?_
            clear hK K
            refine wpAny_done (by kernel_rfl) ?_ _
            go_wp2
            go_meet
            have hf := leafR N.out B2.out BB20.out OO20.out SS20.out (by have := LE.out; simp; omega) X4.out X6.out
            exact ⟨rfl, rfl, _, ⟨by rw [ER.out]; exact hf.1, hf.2.1, hf.2.2.1, hf.2.2.2.1, hf.2.2.2.2.1, hf.2.2.2.2.2⟩⟩
          · go_simp
            refine hK _ _ ?_
            clear hK K
            refine wpAny_take (i := 15) (v := ?_) rfl (by kernel_rfl) (by kernel_rfl) (by kernel_rfl) (fun _ _ _ h => h) (Or.inl ⟨by kernel_rfl, ?_⟩) ?_
            rotate_left
            · intro w; go_simp; try (with_reducible rfl)
            rotate_left
            refine wpAny_ready (rs := [8]) (by kernel_rfl) (by simp) ?_
            refine AllReady.cons rfl (fun K hK => ?_) AllReady.nil
            refine step_app2 (ys := xs.take i) rfl _ _ rfl rfl rfl LT.out OO17.out (RowL.take RR17.out i) (by have := LX.out; simp; omega) BB17.out.size ?_
            intro v1 w23a hO1 hg1 hs1
            obtain ⟨A23, n23, k23, rfl⟩ : ∃ A n c, v1 = .slice A n c := (by obtain ⟨A, c, h, _⟩ := OwnL.row hO1; exact ⟨_, _, _, h⟩)
            have OO23 := Aside0.mk hO1
            have BB23 := Aside0.mk (show Below w2.heap.size w2 w23a from BB17.out.grown hg1 BB17.out.size (fun k hk => (OwnL.lt OO17.out k hk).1))
            have cc23 : w23a.cell? ⟨g, 1, none⟩ = some (.slice (some ⟨g', 0, none⟩) xs.length cap) := (blk_cell (N3.out.below BB23.out).blk 1).trans rfl
            have RR23 := Aside0.mk (RowL.below RX.out BB23.out)
            have SS23 := Aside0.mk (sinceR SS17.out hs1 BB17.out.size)
            clear hO1 hg1 hs1
            (try go_simp)
            refine hK _ _ ?_
            clear hK K
            refine wpAny_ready (rs := [16]) (by kernel_rfl) (by simp) ?_
            refine AllReady.cons rfl (fun K hK => ?_) AllReady.nil
            refine step_app2 (ys := xs.drop (i + 1)) rfl _ _ rfl rfl rfl LD.out OO23.out (dropR RR23.out (i + 1)) (by have := LX.out; simp; omega) BB23.out.size ?_
            intro v1 w24a hO1 hg1 hs1
            obtain ⟨A24, n24, k24, rfl⟩ : ∃ A n c, v1 = .slice A n c := (by obtain ⟨A, c, h, _⟩ := OwnL.row hO1; exact ⟨_, _, _, h⟩)
            have OO24 := Aside0.mk hO1
            have BB24 := Aside0.mk (show Below w2.heap.size w2 w24a from BB23.out.grown hg1 BB23.out.size (fun k hk => (OwnL.lt OO23.out k hk).1))
            have cc24 : w24a.cell? ⟨g, 1, none⟩ = some (.slice (some ⟨g', 0, none⟩) xs.length cap) := (blk_cell (N3.out.below BB24.out).blk 1).trans rfl
            have zz24 : w24a.frozen? ⟨g, 1, none⟩ = false := blk_frozen (N3.out.below BB24.out).blk 1
            have SS24 := Aside0.mk (sinceR SS23.out hs1 BB23.out.size)
            clear hO1 hg1 hs1
            (try go_simp)
            refine hK _ _ ?_
            clear hK K
            refine wpAny_take (i := 17) (v := ?_) rfl (by kernel_rfl) (by kernel_rfl) (by kernel_rfl) (fun _ _ _ h => h) (Or.inl ⟨by kernel_rfl, ?_⟩) ?_
            rotate_left
            · intro w; go_simp; try (with_reducible rfl)
            rotate_left
            refine wpAny_take (i := 18) (v := ?_) rfl (by kernel_rfl) (by kernel_rfl) (by kernel_rfl) (fun _ _ _ h => h) (Or.inl ⟨by kernel_rfl, ?_⟩) ?_
            rotate_left
            · intro w; go_simp; try (with_reducible rfl)
            rotate_left
            refine wpAny_ready (rs := [19]) (by kernel_rfl) (by simp) ?_
            refine AllReady.cons rfl (fun K hK => ?_) AllReady.nil
            go_simp
            refine hK _ _ ?_
            clear hK K
            refine wpAny_done (by kernel_rfl) ?_ _
            go_wp2
            go_meet
            have hf := leafR N.out B2.out BB24.out OO24.out SS24.out (by have := LE.out; simp; omega) X4.out X6.out
            exact ⟨rfl, rfl, _, ⟨by rw [ER.out]; exact hf.1, hf.2.1, hf.2.2.1, hf.2.2.2.1, hf.2.2.2.2.1, hf.2.2.2.2.2⟩⟩
        · go_simp
          refine hK _ _ ?_
          clear hK K
          refine wpAny_take (i := 15) (v := ?_) rfl (by kernel_rfl) (by kernel_rfl) (by kernel_rfl) (fun _ _ _ h => h) (Or.inl ⟨by kernel_rfl, ?_⟩) ?_
          rotate_left
          · intro w; go_simp; try (with_reducible rfl)
          rotate_left
          refine wpAny_ready (rs := [1]) (by kernel_rfl) (by simp) ?_
          refine AllReady.cons rfl (fun K hK => ?_) AllReady.nil
          go_simp
          refine hK _ _ ?_
          clear hK K
          have OO27 := Aside0.mk (show OwnL w2.heap.size (.slice (some ⟨w2.heap.size, 0, none⟩) 0 0) [] (w2.alloc (.cells #[] 36)) from World.ownsRow_made w2 #[] 0 (BB0.out.size) (Nat.zero_le _) rfl)
          have BB27 := Aside0.mk (show Below w2.heap.size w2 (w2.alloc (.cells #[] 36)) from below_alloc BB0.out (.cells #[] 36))
          have cc27 : (w2.alloc (.cells #[] 36)).cell? ⟨g, 1, none⟩ = some (.slice (some ⟨g', 0, none⟩) xs.length cap) := (blk_cell (N3.out.below BB27.out).blk 1).trans rfl
          have RR27 := Aside0.mk (RowL.below RX.out BB27.out)
          have SS27 := Aside0.mk (show ∃ b, (Value.slice (some ⟨w2.heap.size, 0, none⟩) 0 0).ownBlock = some b ∧ w2.heap.size ≤ b from ⟨_, rfl, BB0.out.size⟩)
          refine wpAny_ready (rs := [8]) (by kernel_rfl) (by simp) ?_
          refine AllReady.cons rfl (fun K hK => ?_) AllReady.nil
          refine step_app2 (ys := xs.take i) rfl _ _ rfl rfl rfl LT.out OO27.out (RowL.take RR27.out i) (by have := LX.out; simp; omega) BB27.out.size ?_
          intro v1 w28a hO1 hg1 hs1
          obtain ⟨A28, n28, k28, rfl⟩ : ∃ A n c, v1 = .slice A n c := (by obtain ⟨A, c, h, _⟩ := OwnL.row hO1; exact ⟨_, _, _, h⟩)
          have OO28 := Aside0.mk hO1
          have BB28 := Aside0.mk (show Below w2.heap.size w2 w28a from BB27.out.grown hg1 BB27.out.size (fun k hk => (OwnL.lt OO27.out k hk).1))
          have cc28 : w28a.cell? ⟨g, 1, none⟩ = some (.slice (some ⟨g', 0, none⟩) xs.length cap) := (blk_cell (N3.out.below BB28.out).blk 1).trans rfl
          have RR28 := Aside0.mk (RowL.below RX.out BB28.out)
          have SS28 := Aside0.mk (sinceR SS27.out hs1 BB27.out.size)
          clear hO1 hg1 hs1
          (try go_simp)
          refine hK _ _ ?_
          clear hK K
          refine wpAny_ready (rs := [16]) (by kernel_rfl) (by simp) ?_
          refine AllReady.cons rfl (fun K hK => ?_) AllReady.nil
          refine step_app2 (ys := xs.drop (i + 1)) rfl _ _ rfl rfl rfl LD.out OO28.out (dropR RR28.out (i + 1)) (by have := LX.out; simp; omega) BB28.out.size ?_
          intro v1 w29a hO1 hg1 hs1
          obtain ⟨A29, n29, k29, rfl⟩ : ∃ A n c, v1 = .slice A n c := (by obtain ⟨A, c, h, _⟩ := OwnL.row hO1; exact ⟨_, _, _, h⟩)
          have OO29 := Aside0.mk hO1
          have BB29 := Aside0.mk (show Below w2.heap.size w2 w29a from BB28.out.grown hg1 BB28.out.size (fun k hk => (OwnL.lt OO28.out k hk).1))
          have cc29 : w29a.cell? ⟨g, 1, none⟩ = some (.slice (some ⟨g', 0, none⟩) xs.length cap) := (blk_cell (N3.out.below BB29.out).blk 1).trans rfl
          have zz29 : w29a.frozen? ⟨g, 1, none⟩ = false := blk_frozen (N3.out.below BB29.out).blk 1
          have SS29 := Aside0.mk (sinceR SS28.out hs1 BB28.out.size)
          clear hO1 hg1 hs1
          (try go_simp)
          refine hK _ _ ?_
          clear hK K
          refine wpAny_take (i := 17) (v := ?_) rfl (by kernel_rfl) (by kernel_rfl) (by kernel_rfl) (fun _ _ _ h => h) (Or.inl ⟨by kernel_rfl, ?_⟩) ?_
          rotate_left
          · intro w; go_simp; try (with_reducible rfl)
          rotate_left
          refine wpAny_take (i := 18) (v := ?_) rfl (by kernel_rfl) (by kernel_rfl) (by kernel_rfl) (fun _ _ _ h => h) (Or.inl ⟨by kernel_rfl, ?_⟩) ?_
          rotate_left
          · intro w; go_simp; try (with_reducible rfl)
          rotate_left
          refine wpAny_ready (rs := [19]) (by kernel_rfl) (by simp) ?_
          refine AllReady.cons rfl (fun K hK => ?_) AllReady.nil
          go_simp
          refine hK _ _ ?_
          clear hK K
          refine wpAny_done (by kernel_rfl) ?_ _
          go_wp2
          go_meet
          have hf := leafR N.out B2.out BB29.out OO29.out SS29.out (by have := LE.out; simp; omega) X4.out X6.out
          exact ⟨rfl, rfl, _, ⟨by rw [ER.out]; exact hf.1, hf.2.1, hf.2.2.1, hf.2.2.2.1, hf.2.2.2.2.1, hf.2.2.2.2.2⟩⟩
      · go_simp
        refine hK _ _ ?_
        clear hK K
        refine wpAny_take (i := 15) (v := ?_) rfl (by kernel_rfl) (by kernel_rfl) (by kernel_rfl) (fun _ _ _ h => h) (Or.inl ⟨by kernel_rfl, ?_⟩) ?_
        rotate_left
        · intro w; go_simp; try (with_reducible rfl)
        rotate_left
        refine wpAny_ready (rs := [1, 5]) (by kernel_rfl) (by simp) ?_
        refine AllReady.cons rfl (fun K hK => ?_) (AllReady.cons rfl (fun K hK => ?_) AllReady.nil)
        · go_simp
          refine hK _ _ ?_
          clear hK K
          have OO32 := Aside0.mk (show OwnL w2.heap.size (.slice (some ⟨w2.heap.size, 0, none⟩) 0 0) [] (w2.alloc (.cells #[] 36)) from World.ownsRow_made w2 #[] 0 (BB0.out.size) (Nat.zero_le _) rfl)
          have BB32 := Aside0.mk (show Below w2.heap.size w2 (w2.alloc (.cells #[] 36)) from below_alloc BB0.out (.cells #[] 36))
          have cc32 : (w2.alloc (.cells #[] 36)).cell? ⟨g, 1, none⟩ = some (.slice (some ⟨g', 0, none⟩) xs.length cap) := (blk_cell (N3.out.below BB32.out).blk 1).trans rfl
          have RR32 := Aside0.mk (RowL.below RX.out BB32.out)
          have SS32 := Aside0.mk (show ∃ b, (Value.slice (some ⟨w2.heap.size, 0, none⟩) 0 0).ownBlock = some b ∧ w2.heap.size ≤ b from ⟨_, rfl, BB0.out.size⟩)
          refine wpAny_ready (rs := [5]) (by kernel_rfl) (by simp) ?_
          refine AllReady.cons rfl (fun K hK => ?_) AllReady.nil
          go_simp
          refine hK _ _ ?_
          clear hK K
          refine wpAny_take (i := 7) (v := ?_) rfl (by kernel_rfl) (by kernel_rfl) (by kernel_rfl) (fun _ _ _ h => h) (Or.inl ⟨by kernel_rfl, ?_⟩) ?_
          rotate_left
          · intro w; go_simp; try (with_reducible rfl)
          rotate_left
          refine wpAny_ready (rs := [8]) (by kernel_rfl) (by simp) ?_
          refine AllReady.cons rfl (fun K hK => ?_) AllReady.nil
          refine step_app2 (ys := xs.take i) rfl _ _ rfl rfl rfl LT.out OO32.out (RowL.take RR32.out i) (by have := LX.out; simp; omega) BB32.out.size ?_
          intro v1 w34a hO1 hg1 hs1
          obtain ⟨A34, n34, k34, rfl⟩ : ∃ A n c, v1 = .slice A n c := (by obtain ⟨A, c, h, _⟩ := OwnL.row hO1; exact ⟨_, _, _, h⟩)
          have OO34 := Aside0.mk hO1
          have BB34 := Aside0.mk (show Below w2.heap.size w2 w34a from BB32.out.grown hg1 BB32.out.size (fun k hk => (OwnL.lt OO32.out k hk).1))
          have cc34 : w34a.cell? ⟨g, 1, none⟩ = some (.slice (some ⟨g', 0, none⟩) xs.length cap) := (blk_cell (N3.out.below BB34.out).blk 1).trans rfl
          have RR34 := Aside0.mk (RowL.below RX.out BB34.out)
          have SS34 := Aside0.mk (sinceR SS32.out hs1 BB32.out.size)
          clear hO1 hg1 hs1
          (try go_simp)
          refine hK _ _ ?_
          clear hK K
          refine wpAny_ready (rs := [16]) (by kernel_rfl) (by simp) ?_
          refine AllReady.cons rfl (fun K hK => ?_) AllReady.nil
          refine step_app2 (ys := xs.drop (i + 1)) rfl _ _ rfl rfl rfl LD.out OO34.out (dropR RR34.out (i + 1)) (by have := LX.out; simp; omega) BB34.out.size ?_
          intro v1 w35a hO1 hg1 hs1
          obtain ⟨A35, n35, k35, rfl⟩ : ∃ A n c, v1 = .slice A n c := (by obtain ⟨A, c, h, _⟩ := OwnL.row hO1; exact ⟨_, _, _, h⟩)
          have OO35 := Aside0.mk hO1
          have BB35 := Aside0.mk (show Below w2.heap.size w2 w35a from BB34.out.grown hg1 BB34.out.size (fun k hk => (OwnL.lt OO34.out k hk).1))
          have cc35 : w35a.cell? ⟨g, 1, none⟩ = some (.slice (some ⟨g', 0, none⟩) xs.length cap) := (blk_cell (N3.out.below BB35.out).blk 1).trans rfl
          have zz35 : w35a.frozen? ⟨g, 1, none⟩ = false := blk_frozen (N3.out.below BB35.out).blk 1
          have SS35 := Aside0.mk (sinceR SS34.out hs1 BB34.out.size)
          clear hO1 hg1 hs1
          (try go_simp)
          refine hK _ _ ?_
          clear hK K
          refine wpAny_take (i := 17) (v := ?_) rfl (by kernel_rfl) (by kernel_rfl) (by kernel_rfl) (fun _ _ _ h => h) (Or.inl ⟨by kernel_rfl, ?_⟩) ?_
          rotate_left
          · intro w; go_simp; try (with_reducible rfl)
          rotate_left
          refine wpAny_take (i := 18) (v := ?_) rfl (by kernel_rfl) (by kernel_rfl) (by kernel_rfl) (fun _ _ _ h => h) (Or.inl ⟨by kernel_rfl, ?_⟩) ?_
          rotate_left
          · intro w; go_simp; try (with_reducible rfl)
          rotate_left
          refine wpAny_ready (rs := [19]) (by kernel_rfl) (by simp) ?_
          refine AllReady.cons rfl (fun K hK => ?_) AllReady.nil
          go_simp
          refine hK _ _ ?_
          clear hK K
          refine wpAny_done (by kernel_rfl) ?_ _
          go_wp2
          go_meet
          have hf := leafR N.out B2.out BB35.out OO35.out SS35.out (by have := LE.out; simp; omega) X4.out X6.out
          exact ⟨rfl, rfl, _, ⟨by rw [ER.out]; exact hf.1, hf.2.1, hf.2.2.1, hf.2.2.2.1, hf.2.2.2.2.1, hf.2.2.2.2.2⟩⟩
        · go_simp
          refine hK _ _ ?_
          clear hK K
          refine wpAny_take (i := 7) (v := ?_) rfl (by kernel_rfl) (by kernel_rfl) (by kernel_rfl) (fun _ _ _ h => h) (Or.inl ⟨by kernel_rfl, ?_⟩) ?_
          rotate_left
          · intro w; go_simp; try (with_reducible rfl)
          rotate_left
          refine wpAny_ready (rs := [1]) (by kernel_rfl) (by simp) ?_
          refine AllReady.cons rfl (fun K hK => ?_) AllReady.nil
          go_simp
          refine hK _ _ ?_
          clear hK K
          have OO38 := Aside0.mk (show OwnL w2.heap.size (.slice (some ⟨w2.heap.size, 0, none⟩) 0 0) [] (w2.alloc (.cells #[] 36)) from World.ownsRow_made w2 #[] 0 (BB0.out.size) (Nat.zero_le _) rfl)
          have BB38 := Aside0.mk (show Below w2.heap.size w2 (w2.alloc (.cells #[] 36)) from below_alloc BB0.out (.cells #[] 36))
          have cc38 : (w2.alloc (.cells #[] 36)).cell? ⟨g, 1, none⟩ = some (.slice (some ⟨g', 0, none⟩) xs.length cap) := (blk_cell (N3.out.below BB38.out).blk 1).trans rfl
          have RR38 := Aside0.mk (RowL.below RX.out BB38.out)
          have SS38 := Aside0.mk (show ∃ b, (Value.slice (some ⟨w2.heap.size, 0, none⟩) 0 0).ownBlock = some b ∧ w2.heap.size ≤ b from ⟨_, rfl, BB0.out.size⟩)
          refine wpAny_ready (rs := [8]) (by kernel_rfl) (by simp) ?_
          refine AllReady.cons rfl (fun K hK => ?_) AllReady.nil
          refine step_app2 (ys := xs.take i) rfl _ _ rfl rfl rfl LT.out OO38.out (RowL.take RR38.out i) (by have := LX.out; simp; omega) BB38.out.size ?_
          intro v1 w39a hO1 hg1 hs1
          obtain ⟨A39, n39, k39, rfl⟩ : ∃ A n c, v1 = .slice A n c := (by obtain ⟨A, c, h, _⟩ := OwnL.row hO1; exact ⟨_, _, _, h⟩)
          have OO39 := Aside0.mk hO1
          have BB39 := Aside0.mk (show Below w2.heap.size w2 w39a from BB38.out.grown hg1 BB38.out.size (fun k hk => (OwnL.lt OO38.out k hk).1))
          have cc39 : w39a.cell? ⟨g, 1, none⟩ = some (.slice (some ⟨g', 0, none⟩) xs.length cap) := (blk_cell (N3.out.below BB39.out).blk 1).trans rfl
          have RR39 := Aside0.mk (RowL.below RX.out BB39.out)
          have SS39 := Aside0.mk (sinceR SS38.out hs1 BB38.out.size)
          clear hO1 hg1 hs1
          (try go_simp)
          refine hK _ _ ?_
          clear hK K
          refine wpAny_ready (rs := [16]) (by kernel_rfl) (by simp) ?_
          refine AllReady.cons rfl (fun K hK => ?_) AllReady.nil
          refine step_app2 (ys := xs.drop (i + 1)) rfl _ _ rfl rfl rfl LD.out OO39.out (dropR RR39.out (i + 1)) (by have := LX.out; simp; omega) BB39.out.size ?_
          intro v1 w40a hO1 hg1 hs1
          obtain ⟨A40, n40, k40, rfl⟩ : ∃ A n c, v1 = .slice A n c := (by obtain ⟨A, c, h, _⟩ := OwnL.row hO1; exact ⟨_, _, _, h⟩)
          have OO40 := Aside0.mk hO1
          have BB40 := Aside0.mk (show Below w2.heap.size w2 w40a from BB39.out.grown hg1 BB39.out.size (fun k hk => (OwnL.lt OO39.out k hk).1))
          have cc40 : w40a.cell? ⟨g, 1, none⟩ = some (.slice (some ⟨g', 0, none⟩) xs.length cap) := (blk_cell (N3.out.below BB40.out).blk 1).trans rfl
          have zz40 : w40a.frozen? ⟨g, 1, none⟩ = false := blk_frozen (N3.out.below BB40.out).blk 1
          have SS40 := Aside0.mk (sinceR SS39.out hs1 BB39.out.size)
          clear hO1 hg1 hs1
          (try go_simp)
          refine hK _ _ ?_
          clear hK K
          refine wpAny_take (i := 17) (v := ?_) rfl (by kernel_rfl) (by kernel_rfl) (by kernel_rfl) (fun _ _ _ h => h) (Or.inl ⟨by kernel_rfl, ?_⟩) ?_
          rotate_left
          · intro w; go_simp; try (with_reducible rfl)
          rotate_left
          refine wpAny_take (i := 18) (v := ?_) rfl (by kernel_rfl) (by kernel_rfl) (by kernel_rfl) (fun _ _ _ h => h) (Or.inl ⟨by kernel_rfl, ?_⟩) ?_
          rotate_left
          · intro w; go_simp; try (with_reducible rfl)
          rotate_left
          refine wpAny_ready (rs := [19]) (by kernel_rfl) (by simp) ?_
          refine AllReady.cons rfl (fun K hK => ?_) AllReady.nil
          go_simp
          refine hK _ _ ?_
          clear hK K
          refine wpAny_done (by kernel_rfl) ?_ _
          go_wp2
          go_meet
          have hf := leafR N.out B2.out BB40.out OO40.out SS40.out (by have := LE.out; simp; omega) X4.out X6.out
          exact ⟨rfl, rfl, _, ⟨by rw [ER.out]; exact hf.1, hf.2.1, hf.2.2.1, hf.2.2.2.1, hf.2.2.2.2.1, hf.2.2.2.2.2⟩⟩
    case rest =>
      obtain ⟨rfl, rfl, vr, hf⟩ := hcut
      have hlt2 : w.heap.size + 1 < wc.heap.size := blk_lt hf.out.2.2.2.2.1
      obtain ⟨w4, rfl⟩ : ∃ x : World, x = wc := ⟨_, rfl⟩
      clear c1 e0 e1 e2 e3 e4 e5 e6 e7 e8 e9 e10
      have fa0 : w4.cell? ⟨w.heap.size + 1, 0, none⟩ = some (.int .i64 k1) := (blk_cell hf.out.2.2.2.2.1 0).trans rfl
      have fa1 : w4.cell? ⟨w.heap.size + 1, 1, none⟩ = some (.int .i64 f1) := (blk_cell hf.out.2.2.2.2.1 1).trans rfl
      have fa2 : w4.cell? ⟨w.heap.size + 1, 2, none⟩ = some (.int .i64 t1) := (blk_cell hf.out.2.2.2.2.1 2).trans rfl
      have fa3 : w4.cell? ⟨w.heap.size + 1, 3, none⟩ = some (.int .i64 b1) := (blk_cell hf.out.2.2.2.2.1 3).trans rfl
      have fa4 : w4.cell? ⟨w.heap.size + 1, 4, none⟩ = some (.int .i64 s1) := (blk_cell hf.out.2.2.2.2.1 4).trans rfl
      have fa5 : w4.cell? ⟨w.heap.size + 1, 5, none⟩ = some (.int .i64 wh1) := (blk_cell hf.out.2.2.2.2.1 5).trans rfl
      have fa6 : w4.cell? ⟨w.heap.size + 1, 6, none⟩ = some (.bool wr1) := (blk_cell hf.out.2.2.2.2.1 6).trans rfl
      have fa7 : w4.cell? ⟨w.heap.size + 1, 7, none⟩ = some (.int .i64 cn1) := (blk_cell hf.out.2.2.2.2.1 7).trans rfl
      have fa8 : w4.cell? ⟨w.heap.size + 1, 8, none⟩ = some (.bool o1) := (blk_cell hf.out.2.2.2.2.1 8).trans rfl
      have fa9 : w4.cell? ⟨w.heap.size + 1, 9, none⟩ = some (.bool h1) := (blk_cell hf.out.2.2.2.2.1 9).trans rfl
      have fa10 : w4.cell? ⟨w.heap.size + 1, 10, none⟩ = some (.int .i64 d1) := (blk_cell hf.out.2.2.2.2.1 10).trans rfl
      have pa0 : w4.cell? ⟨w.heap.size, 0, none⟩ = some (.int .i64 0) := (blk_cell hf.out.2.2.2.1 0).trans rfl
      have ra0 : w4.frozen? ⟨w.heap.size, 0, none⟩ = false := blk_frozen hf.out.2.2.2.1 0
      have pa1 : w4.cell? ⟨w.heap.size, 1, none⟩ = some (.int .i64 0) := (blk_cell hf.out.2.2.2.1 1).trans rfl
      have ra1 : w4.frozen? ⟨w.heap.size, 1, none⟩ = false := blk_frozen hf.out.2.2.2.1 1
      have pa2 : w4.cell? ⟨w.heap.size, 2, none⟩ = some (.int .i64 0) := (blk_cell hf.out.2.2.2.1 2).trans rfl
      have ra2 : w4.frozen? ⟨w.heap.size, 2, none⟩ = false := blk_frozen hf.out.2.2.2.1 2
      have pa3 : w4.cell? ⟨w.heap.size, 3, none⟩ = some (.int .i64 0) := (blk_cell hf.out.2.2.2.1 3).trans rfl
      have ra3 : w4.frozen? ⟨w.heap.size, 3, none⟩ = false := blk_frozen hf.out.2.2.2.1 3
      have pa4 : w4.cell? ⟨w.heap.size, 4, none⟩ = some (.int .i64 0) := (blk_cell hf.out.2.2.2.1 4).trans rfl
      have ra4 : w4.frozen? ⟨w.heap.size, 4, none⟩ = false := blk_frozen hf.out.2.2.2.1 4
      have pa5 : w4.cell? ⟨w.heap.size, 5, none⟩ = some (.int .i64 0) := (blk_cell hf.out.2.2.2.1 5).trans rfl
      have ra5 : w4.frozen? ⟨w.heap.size, 5, none⟩ = false := blk_frozen hf.out.2.2.2.1 5
      have pa6 : w4.cell? ⟨w.heap.size, 6, none⟩ = some (.bool false) := (blk_cell hf.out.2.2.2.1 6).trans rfl
      have ra6 : w4.frozen? ⟨w.heap.size, 6, none⟩ = false := blk_frozen hf.out.2.2.2.1 6
      have pa7 : w4.cell? ⟨w.heap.size, 7, none⟩ = some (.int .i64 0) := (blk_cell hf.out.2.2.2.1 7).trans rfl
      have ra7 : w4.frozen? ⟨w.heap.size, 7, none⟩ = false := blk_frozen hf.out.2.2.2.1 7
      have pa8 : w4.cell? ⟨w.heap.size, 8, none⟩ = some (.bool false) := (blk_cell hf.out.2.2.2.1 8).trans rfl
      have ra8 : w4.frozen? ⟨w.heap.size, 8, none⟩ = false := blk_frozen hf.out.2.2.2.1 8
      have pa9 : w4.cell? ⟨w.heap.size, 9, none⟩ = some (.bool false) := (blk_cell hf.out.2.2.2.1 9).trans rfl
      have ra9 : w4.frozen? ⟨w.heap.size, 9, none⟩ = false := blk_frozen hf.out.2.2.2.1 9
      have pa10 : w4.cell? ⟨w.heap.size, 10, none⟩ = some (.int .i64 0) := (blk_cell hf.out.2.2.2.1 10).trans rfl
      have ra10 : w4.frozen? ⟨w.heap.size, 10, none⟩ = false := blk_frozen hf.out.2.2.2.1 10
      go_wp2
      have CH := Aside0.mk (show Chg w.heap.size none w4 (((((((((((w4.setCell ⟨w.heap.size, 0, none⟩ (.int .i64 k1)).setCell ⟨w.heap.size, 1, none⟩ (.int .i64 f1)).setCell ⟨w.heap.size, 2, none⟩ (.int .i64 t1)).setCell ⟨w.heap.size, 3, none⟩ (.int .i64 b1)).setCell ⟨w.heap.size, 4, none⟩ (.int .i64 s1)).setCell ⟨w.heap.size, 5, none⟩ (.int .i64 wh1)).setCell ⟨w.heap.size, 6, none⟩ (.bool wr1)).setCell ⟨w.heap.size, 7, none⟩ (.int .i64 cn1)).setCell ⟨w.heap.size, 8, none⟩ (.bool o1)).setCell ⟨w.heap.size, 9, none⟩ (.bool h1)).setCell ⟨w.heap.size, 10, none⟩ (.int .i64 d1)) from ((((((((((((Chg.refl _ _ _).set 0 _).set 1 _).set 2 _).set 3 _).set 4 _).set 5 _).set 6 _).set 7 _).set 8 _).set 9 _).set 10 _))
      have CG := Aside0.mk (show Chg g (some g') w (((((((((((w4.setCell ⟨w.heap.size, 0, none⟩ (.int .i64 k1)).setCell ⟨w.heap.size, 1, none⟩ (.int .i64 f1)).setCell ⟨w.heap.size, 2, none⟩ (.int .i64 t1)).setCell ⟨w.heap.size, 3, none⟩ (.int .i64 b1)).setCell ⟨w.heap.size, 4, none⟩ (.int .i64 s1)).setCell ⟨w.heap.size, 5, none⟩ (.int .i64 wh1)).setCell ⟨w.heap.size, 6, none⟩ (.bool wr1)).setCell ⟨w.heap.size, 7, none⟩ (.int .i64 cn1)).setCell ⟨w.heap.size, 8, none⟩ (.bool o1)).setCell ⟨w.heap.size, 9, none⟩ (.bool h1)).setCell ⟨w.heap.size, 10, none⟩ (.int .i64 d1)) by
        have CG0 : Chg g (some g') w w4 := hf.out.2.1
        exact (Chg.setNew (Chg.setNew (Chg.setNew (Chg.setNew (Chg.setNew (Chg.setNew (Chg.setNew (Chg.setNew (Chg.setNew (Chg.setNew (Chg.setNew CG0 (Nat.le_refl _) 0 _) (Nat.le_refl _) 1 _) (Nat.le_refl _) 2 _) (Nat.le_refl _) 3 _) (Nat.le_refl _) 4 _) (Nat.le_refl _) 5 _) (Nat.le_refl _) 6 _) (Nat.le_refl _) 7 _) (Nat.le_refl _) 8 _) (Nat.le_refl _) 9 _) (Nat.le_refl _) 10 _))
      have H5 : ((((((((((((w4.setCell ⟨w.heap.size, 0, none⟩ (.int .i64 k1)).setCell ⟨w.heap.size, 1, none⟩ (.int .i64 f1)).setCell ⟨w.heap.size, 2, none⟩ (.int .i64 t1)).setCell ⟨w.heap.size, 3, none⟩ (.int .i64 b1)).setCell ⟨w.heap.size, 4, none⟩ (.int .i64 s1)).setCell ⟨w.heap.size, 5, none⟩ (.int .i64 wh1)).setCell ⟨w.heap.size, 6, none⟩ (.bool wr1)).setCell ⟨w.heap.size, 7, none⟩ (.int .i64 cn1)).setCell ⟨w.heap.size, 8, none⟩ (.bool o1)).setCell ⟨w.heap.size, 9, none⟩ (.bool h1)).setCell ⟨w.heap.size, 10, none⟩ (.int .i64 d1))).heap[w.heap.size]? = some (.cells #[.int .i64 k1, .int .i64 f1, .int .i64 t1, .int .i64 b1, .int .i64 s1, .int .i64 wh1, .bool wr1, .int .i64 cn1, .bool o1, .bool h1, .int .i64 d1] 36) := by have := (blk_set (blk_set (blk_set (blk_set (blk_set (blk_set (blk_set (blk_set (blk_set (blk_set (blk_set hf.out.2.2.2.1 0 (.int .i64 k1)) 1 (.int .i64 f1)) 2 (.int .i64 t1)) 3 (.int .i64 b1)) 4 (.int .i64 s1)) 5 (.int .i64 wh1)) 6 (.bool wr1)) 7 (.int .i64 cn1)) 8 (.bool o1)) 9 (.bool h1)) 10 (.int .i64 d1)); simpa using this
      clear fa0 fa1 fa2 fa3 fa4 fa5 fa6 fa7 fa8 fa9 fa10 pa0 pa1 pa2 pa3 pa4 pa5 pa6 pa7 pa8 pa9 pa10 ra0 ra1 ra2 ra3 ra4 ra5 ra6 ra7 ra8 ra9 ra10
      generalize (((((((((((w4.setCell ⟨w.heap.size, 0, none⟩ (.int .i64 k1)).setCell ⟨w.heap.size, 1, none⟩ (.int .i64 f1)).setCell ⟨w.heap.size, 2, none⟩ (.int .i64 t1)).setCell ⟨w.heap.size, 3, none⟩ (.int .i64 b1)).setCell ⟨w.heap.size, 4, none⟩ (.int .i64 s1)).setCell ⟨w.heap.size, 5, none⟩ (.int .i64 wh1)).setCell ⟨w.heap.size, 6, none⟩ (.bool wr1)).setCell ⟨w.heap.size, 7, none⟩ (.int .i64 cn1)).setCell ⟨w.heap.size, 8, none⟩ (.bool o1)).setCell ⟨w.heap.size, 9, none⟩ (.bool h1)).setCell ⟨w.heap.size, 10, none⟩ (.int .i64 d1)) = w5 at *
      have va0 : w5.cell? ⟨w.heap.size, 0, none⟩ = some (.int .i64 k1) := (blk_cell H5 0).trans rfl
      have va1 : w5.cell? ⟨w.heap.size, 1, none⟩ = some (.int .i64 f1) := (blk_cell H5 1).trans rfl
      have va2 : w5.cell? ⟨w.heap.size, 2, none⟩ = some (.int .i64 t1) := (blk_cell H5 2).trans rfl
      have va3 : w5.cell? ⟨w.heap.size, 3, none⟩ = some (.int .i64 b1) := (blk_cell H5 3).trans rfl
      have va4 : w5.cell? ⟨w.heap.size, 4, none⟩ = some (.int .i64 s1) := (blk_cell H5 4).trans rfl
      have va5 : w5.cell? ⟨w.heap.size, 5, none⟩ = some (.int .i64 wh1) := (blk_cell H5 5).trans rfl
      have va6 : w5.cell? ⟨w.heap.size, 6, none⟩ = some (.bool wr1) := (blk_cell H5 6).trans rfl
      have va7 : w5.cell? ⟨w.heap.size, 7, none⟩ = some (.int .i64 cn1) := (blk_cell H5 7).trans rfl
      have va8 : w5.cell? ⟨w.heap.size, 8, none⟩ = some (.bool o1) := (blk_cell H5 8).trans rfl
      have va9 : w5.cell? ⟨w.heap.size, 9, none⟩ = some (.bool h1) := (blk_cell H5 9).trans rfl
      have va10 : w5.cell? ⟨w.heap.size, 10, none⟩ = some (.int .i64 d1) := (blk_cell H5 10).trans rfl
      refine bodyPost_ret (v := .tuple #[letV (k1, f1, t1, b1, s1, wh1, wr1, cn1, o1, h1, d1), .bool true]) (by simp [results, Try.results24, go_sem, va0, va1, va2, va3, va4, va5, va6, va7, va8, va9, va10]; try rfl) rfl ?_
      have hsz := N.out.bel.size
      have hg4 := hlt.out
      exact ⟨_, rfl, hf.out.1.other CH.out (by omega) hf.out.2.2.2.2.2 hsz, CG.out, hf.out.2.2.1⟩

end Go.Proofs.Ytedfjadgfkbfiaa.NetW
