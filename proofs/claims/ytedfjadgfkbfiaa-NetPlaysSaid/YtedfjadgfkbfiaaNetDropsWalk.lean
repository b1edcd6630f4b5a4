/- NetDrops, walked. -/
import Derived.Test.YtedfjadgfkbfiaaNetAwake
namespace Go.Proofs.Ytedfjadgfkbfiaa.NetW
open Go.RowKit Go.Proofs.YtedfjadgfkbfiaaW.PrintWords Go.Proofs.Ytedfjadgfkbfiaa.Opens
set_option linter.unusedVariables false
set_option linter.unusedSimpArgs false
attribute [local go_sem] nil27 World.cell?_alloc_some
attribute [local go_sem high] eqA36

theorem RowL.take {w : World} {A : Option Addr} {xs : List LetR} (h : RowL w A xs) (n : Nat) : RowL w A (xs.take n) := by
  intro i hi
  simp at hi
  obtain ⟨ad, e, hc⟩ := h i (by omega)
  refine ⟨ad, e, fun j hj => ?_⟩
  rw [hc j hj]
  congr 2
  simp [List.getD_eq_getElem?_getD, List.getElem?_take, show i < n by omega]
theorem RowL.drop {w : World} {ad : Addr} {xs : List LetR} (h : RowL w (some ad) xs) (n : Nat) : RowL w (some (ad.add (n * 11))) (xs.drop n) := by
  intro i hi
  simp at hi
  obtain ⟨ad', e, hc⟩ := h (n + i) (by omega)
  injection e with e
  subst e
  refine ⟨_, rfl, fun j hj => ?_⟩
  rw [Go.Deep.add_add, show n * 11 + (i * 11 + j) = (n + i) * 11 + j by omega, hc j hj]
  congr 2
  simp [List.getD_eq_getElem?_getD]
theorem list_app_w {ops : Array Oper} {rest : List Oper} {o : Oper} {a : Act} {Q : Exit → Act → World → Prop} {w : World} (hw : Region.wanted o (yielded ops a.tmps) = true) (s x : Operand)
    (ho : o.op = .call { callee := .builtin .append, args := #[s, x], argTypes := #[27, 27] }) {B : Nat} {v : Value} {xs ys : List LetR} {A : Option Addr} {c : Nat}
    (hs : a.eval s = v) (hx : a.eval x = .slice A ys.length c) (hO : OwnL B v xs w) (hR : RowL w A ys) (hbytes : (xs.length + ys.length) * 80 ≤ 140737488355328) (hB : B ≤ w.heap.size)
    (h : ∀ v' w', OwnL B v' (xs ++ ys) w' → w.grownBy w' v.ownBlock → (v'.ownBlock = v.ownBlock ∨ ∃ b, v'.ownBlock = some b ∧ w.heap.size ≤ b) → wpList Try.prog ops Q rest (a.put o.dst v') w') : wpList Try.prog ops Q (o :: rest) a w := by
  refine wpList_step fun K hK => ?_
  rw [if_pos hw]
  obtain ⟨v', w', hr, h2, h3, h4⟩ := app_run o.type hO hR (c := c) hbytes hB
  unfold Oper.wp execOp
  simp only [ho, resolve, invoke, builtin, Sem.run_bind, Sem.run_pure, Result.andThen_ok, List.map_toArray, List.map_cons, List.map_nil, hs, hx, hr]
  exact hK _ _ (h v' w' h2 h3 h4)
theorem RowL.none_ {w : World} {A : Option Addr} : RowL w A [] := fun i hi => by simp at hi
theorem step_app2 {ops : Array Oper} {o : Oper} {a : Act} {K : Act → World → Prop} {Q : Exit → Act → World → Prop} {w : World} {E : Prop} (hgd : o.guard = none) (s x : Operand)
    (ho : o.op = .call { callee := .builtin .append, args := #[s, x], argTypes := #[27, 27] }) {B : Nat} {v : Value} {xs ys : List LetR} {A : Option Addr} {m c : Nat}
    (hs : a.eval s = v) (hx : a.eval x = .slice A m c) (hm : m = ys.length) (hO : OwnL B v xs w) (hR : RowL w A ys) (hbytes : (xs.length + ys.length) * 80 ≤ 140737488355328) (hB : B ≤ w.heap.size)
    (h : ∀ v' w', OwnL B v' (xs ++ ys) w' → w.grownBy w' v.ownBlock → (v'.ownBlock = v.ownBlock ∨ ∃ b, v'.ownBlock = some b ∧ w.heap.size ≤ b) → K (a.put o.dst v') w') :
    if Region.wanted o (yielded ops a.tmps) = true then Oper.wp Try.prog o a w K Q else E := by
  subst hm
  exact step_app hgd s x ho hs hx hO hR hbytes hB h

set_option maxHeartbeats 4000000 in
set_option maxRecDepth 100000 in
theorem drops_law {A : Option Addr} {xs : List LetR} {c : Nat} (i : Int) (w : World) (hR : RowL w A xs) (hlc : xs.length ≤ c) (hc : c ≤ 9223372036854775807) : Calls Try.prog 4 #[.slice A xs.length c, .int .i64 i] w (RN true w) := by
  have R := Aside0.mk hR
  clear hR
  by_cases h100 : (100 : Int) < (xs.length : Int)
  · go_enter Try.func4, Try.ntmps4
    go_wp2_with fail
    refine (awake_any _).mono ?_
    rintro e w1 ⟨rfl, hb⟩
    have B1 := Aside0.mk hb
    clear hb
    go_wp2_with fail
    refine (awake_any _).mono ?_
    rintro e w2 ⟨rfl, hb⟩
    have B2 := Aside0.mk (B1.out.trans (hb.mono B1.out.size))
    clear hb
    go_wp2
    go_ret
    exact ⟨rfl, B2.out⟩
  · have hl100 := Aside0.mk (show xs.length ≤ 100 by omega)
    go_enter Try.func4, Try.ntmps4
    go_wp2_with fail
    refine (awake_any _).mono ?_
    rintro e w1 ⟨rfl, hb⟩
    have B1 := Aside0.mk hb
    clear hb
    go_wp2_with fail
    refine (new_any xs.length w _ B1.out).mono ?_
    rintro e w2 ⟨rfl, hN, -⟩
    rw [show roomOf (xs.length : Int) = (xs.length : Int) by unfold roomOf; omega] at hN
    have N2 := Aside0.mk hN
    have hg2 := Aside0.mk hN.lt
    clear hN
    generalize w1.heap.size = g at *
    have O3 := Aside0.mk (show OwnL w2.heap.size (.slice (some ⟨w2.heap.size, 0, none⟩) 0 0) [] (w2.alloc (.cells #[] 36)) from World.ownsRow_made w2 #[] 0 (Nat.le_refl _) (Nat.zero_le _) rfl)
    have R3 := Aside0.mk (RowL.below R.out (N2.out.below (below_alloc (Below.refl _ w2) (.cells #[] 36))).bel)
    have BS3 := Aside0.mk (show w2.heap.size ≤ (w2.alloc (.cells #[] 36)).heap.size by simp)
    go_wp2_with (at_builtin; refine list_app_w (by kernel_rfl) _ _ rfl rfl rfl (by exact O3.out) (by exact R3.out) (by have := hl100.out; simp; omega) (by exact BS3.out) ?_; intro v1 w4 hO1 hg1 _; obtain ⟨A4, n4, k4, rfl⟩ : ∃ A n c, v1 = .slice A n c := (by obtain ⟨A, c, h, _⟩ := OwnL.row hO1; exact ⟨_, _, _, h⟩); have O4 := Aside0.mk hO1; have G4 := Aside0.mk hg1; clear hO1 hg1)
    have B4 := Aside0.mk (show Below w2.heap.size w2 w4 from (below_alloc (Below.refl _ w2) (.cells #[] 36)).grown G4.out (by simp) (fun k hk => (OwnL.lt O3.out k hk).1))
    have N4 := Aside0.mk (N2.out.below B4.out)
    have R4 := Aside0.mk (show RowL w4 A4 xs ∧ n4 = xs.length by
      obtain ⟨A9, k9, e, hr, _⟩ := OwnL.row O4.out
      simp at e
      simp only [List.nil_append] at hr
      rw [← e.1] at hr
      exact ⟨hr, e.2.1⟩)
    obtain rfl : n4 = xs.length := R4.out.2
    refine (send_any N4.out (by have := hl100.out; omega) R4.out.1).mono ?_
    rintro e w5 ⟨v5, rfl, hN, -, -⟩
    have hgo : goes xs.length [] xs = true := by simp [goes]
    rw [hgo]
    rw [show sent xs.length [] xs = xs by simp [sent, hgo]] at hN
    have N5 := Aside0.mk hN
    clear hN hgo O4 G4 R4 O3 R3 BS3 B4 N4 N2
    go_wp2_with fail
    refine (drop_any i N5.out).mono ?_
    rintro e w6 ⟨v6, rfl, hN, -, -⟩
    have N6 := Aside0.mk hN
    clear hN N5
    cases hin : inside xs i with
    | false =>
      have hlo : loses xs i = false := by simp [loses, hin]
      have N7 := Aside0.mk (show NetAt 80 xs.length xs v6 g w w6 by have := N6.out; rwa [show dropped xs i = xs by simp [dropped, hlo]] at this)
      rw [hlo]
      clear N6 hlo
      have hio : i < 0 ∨ (0 ≤ i ∧ (xs.length : Int) ≤ i) := by simp [inside] at hin; omega
      clear hin
      rcases hio with hi1 | ⟨hi1, hi2⟩
      all_goals
        go_wp2_with fail
        refine (list_any N7.out).mono ?_
        rintro e w8 ⟨u8, rfl, hO, hb⟩
        obtain ⟨A8, k8, rfl, hr8, -, -⟩ := OwnL.row hO
        have N8 := Aside0.mk (N7.out.below hb)
        have R8 := Aside0.mk hr8
        have X8 := Aside0.mk (RowL.below R.out (N7.out.below hb).bel)
        clear hO hb hr8
        go_wp2_with fail
        refine (same_any R8.out X8.out (by have := hl100.out; omega) (by have := hl100.out; omega)).mono ?_
        rintro e w9 ⟨r, rfl, hr, hb⟩
        obtain rfl : r = true := hr.2 rfl
        have N9 := Aside0.mk (N8.out.below hb)
        clear hr hb
        go_wp2
        go_ret
        exact ⟨rfl, N9.out.bel⟩
    | true =>
      obtain ⟨n, rfl, hn⟩ := inside_nat hin
      clear hin
      have q0 : (0 : Int) ≤ (n : Int) := by omega
      have q1 : (n : Int) < (xs.length : Int) := by omega
      obtain ⟨ad, rfl, hrw⟩ := R.out n hn
      have h10 := hrw 0 (by omega)
      rw [Nat.add_zero] at h10
      obtain ⟨⟨k1, f1, t1, b1, s1, wh1, wr1, c1, o1, h1, d1⟩, hx0⟩ : ∃ l : LetR, xs.getD n l0 = l := ⟨_, rfl⟩
      rw [hx0] at h10
      simp only [letCells, List.getElem?_cons_zero] at h10
      have HK0 := Aside0.mk h10
      clear hrw h10
      have hask : ask (xs.getD n l0) = (k1 == 2) := by rw [hx0]; rfl
      have hlo : loses xs n = (k1 == 2) := by rw [← hask]; simp only [loses, inside_of hn, Int.toNat_natCast, Bool.true_and]
      have hdr : dropped xs n = if (k1 == 2) = true then xs.eraseIdx n else xs := by rw [dropped, hlo]; simp
      rw [hlo]
      rw [hdr] at N6
      clear hlo hdr hask hx0
      have q2 : (n : Int) ≤ (c : Int) := by omega
      have q3 : (n : Int) + 1 ≤ (xs.length : Int) := by omega
      have q4 : (n : Int) + 1 ≤ (c : Int) := by omega
      have q5 : wrap64 ((n : Int) + 1) = (n : Int) + 1 := by unfold wrap64; have := hl100.out; omega
      have q6 : (0 : Int) ≤ (n : Int) + 1 := by omega
      have q7 : IntKind.i64.wrap ((n : Int) + 1) = (n : Int) + 1 := by rw [IntKind.wrap_i64]; omega
      have q9 : (n : Int) ≤ (n : Int) + 1 := by omega
      have q8 : ((n : Int) + 1).toNat = n + 1 := by omega
      have O8 := Aside0.mk (show OwnL w6.heap.size (.slice (some ⟨w6.heap.size, 0, none⟩) 0 0) [] (w6.drew.alloc (.cells #[] 36)) from World.ownsRow_made w6.drew #[] 0 (Nat.le_refl _) (Nat.zero_le _) rfl)
      have B8 := Aside0.mk (show Below w6.heap.size w6 (w6.drew.alloc (.cells #[] 36)) from below_alloc (Below.drew (Below.refl _ _)) (.cells #[] 36))
      have R8 := Aside0.mk (RowL.below R.out (N6.out.below B8.out).bel)
      have LT := Aside0.mk (show n = (xs.take n).length by simp; omega)
      have LD := Aside0.mk (show xs.length - (n + 1) = (xs.drop (n + 1)).length by simp)
      have ER := Aside0.mk (show xs.eraseIdx n = ([] ++ xs.take n) ++ xs.drop (n + 1) by rw [List.nil_append]; exact List.eraseIdx_eq_take_drop_succ xs n)
      by_cases hc1 : c = n + 1
      · have DE := Aside0.mk (show xs.drop (n + 1) = [] from List.drop_eq_nil_of_le (by omega))
        go_wp2_with fail
        refine wp_region_any (by kernel_rfl) ?_
        (try (change wpAny _ _ _ _ _ _ _ (World.drew _)))
        refine wpAny_take (i := 1) (v := ?_) rfl (by kernel_rfl) (by kernel_rfl) (by kernel_rfl) (fun _ _ _ h => h) (Or.inl ⟨by kernel_rfl, ?_⟩) ?_
        rotate_left
        · intro w; go_simp; try (with_reducible rfl)
        rotate_left
        refine wpAny_take (i := 2) (v := ?_) rfl (by kernel_rfl) (by kernel_rfl) (by kernel_rfl) (fun _ _ _ h => h) (Or.inl ⟨by kernel_rfl, ?_⟩) ?_
        rotate_left
        · intro w; go_simp; try (with_reducible rfl)
        rotate_left
        refine wpAny_take (i := 3) (v := ?_) rfl (by kernel_rfl) (by kernel_rfl) (by kernel_rfl) (fun _ _ _ h => h) (Or.inl ⟨by kernel_rfl, ?_⟩) ?_
        rotate_left
        · intro w; go_simp; try (with_reducible rfl)
        rotate_left
        refine wpAny_take (i := 5) (v := ?_) rfl (by kernel_rfl) (by kernel_rfl) (by kernel_rfl) (fun _ _ _ h => h) (Or.inl ⟨by kernel_rfl, ?_⟩) ?_
        rotate_left
        · intro w; go_simp; try (with_reducible rfl)
        rotate_left
        refine wpAny_take (i := 6) (v := ?_) rfl (by kernel_rfl) (by kernel_rfl) (by kernel_rfl) (fun _ _ _ h => h) (Or.inl ⟨by kernel_rfl, ?_⟩) ?_
        rotate_left
        · intro w; go_simp; try (with_reducible rfl)
        rotate_left
        refine wpAny_take (i := 7) (v := ?_) rfl (by kernel_rfl) (by kernel_rfl) (by kernel_rfl) (fun _ _ _ h => h) (Or.inl ⟨by kernel_rfl, ?_⟩) ?_
        rotate_left
        · intro w; go_simp; try (with_reducible rfl)
        rotate_left
        refine wpAny_take (i := 8) (v := ?_) rfl (by kernel_rfl) (by kernel_rfl) (by kernel_rfl) (fun _ _ _ h => h) (Or.inl ⟨by kernel_rfl, ?_⟩) ?_
        rotate_left
        · intro w; go_simp; try (with_reducible rfl)
        rotate_left
        refine wpAny_ready (rs := [0]) (by kernel_rfl) (by simp) ?_
        refine AllReady.cons rfl (fun K hK => ?_) AllReady.nil
        go_simp
        refine hK _ _ ?_
        clear hK K
        refine wpAny_ready (rs := [4]) (by kernel_rfl) (by simp) ?_
        refine AllReady.cons rfl (fun K hK => ?_) AllReady.nil
        refine step_app2 (ys := xs.take n) rfl _ _ rfl rfl rfl LT.out O8.out (RowL.take R8.out n) (by simp; have := hl100.out; omega) B8.out.size ?_
        intro v9 w9 hO1 hg1 hs1
        have O9 := Aside0.mk hO1
        have B9 := Aside0.mk (show Below w6.heap.size w6 w9 from B8.out.grown hg1 B8.out.size (fun k hk => (OwnL.lt O8.out k hk).1))
        have R9 := Aside0.mk (RowL.below R.out (N6.out.below B9.out).bel)
        clear hO1 hg1 hs1
        (try go_simp)
        refine hK _ _ ?_
        clear hK K
        refine wpAny_ready (rs := [9]) (by kernel_rfl) (by simp) ?_
        refine AllReady.cons rfl (fun K hK => ?_) AllReady.nil
        refine step_app2 (ys := xs.drop (n + 1)) rfl _ _ rfl rfl rfl (by have := LD.out; omega) O9.out (by rw [DE.out]; exact RowL.none_) (by simp; have := hl100.out; omega) B9.out.size ?_
        intro v10 w10 hO1 hg1 hs1
        have O10 := Aside0.mk hO1
        have B10 := Aside0.mk (show Below w6.heap.size w6 w10 from B9.out.grown hg1 B9.out.size (fun k hk => (OwnL.lt O9.out k hk).1))
        clear hO1 hg1 hs1
        (try go_simp)
        refine hK _ _ ?_
        clear hK K
        refine wpAny_take (i := 10) (v := ?_) rfl (by kernel_rfl) (by kernel_rfl) (by kernel_rfl) (fun _ _ _ h => h) (Or.inl ⟨by kernel_rfl, ?_⟩) ?_
        rotate_left
        · intro w; go_simp; try (with_reducible rfl)
        rotate_left
        refine wpAny_done (by kernel_rfl) ?_ _
        have O11 := Aside0.mk (show OwnL w6.heap.size v10 (xs.eraseIdx n) w10 by rw [ER.out]; exact O10.out)
        obtain ⟨A11, k11, rfl, hr11, -, -⟩ := OwnL.row O11.out
        have R11 := Aside0.mk hr11
        have N10 := Aside0.mk (N6.out.below B10.out)
        have hk10 : w10.cell? (ad.add (n * 11)) = some (.int .i64 k1) := (N10.out.bel.cell (World.block_lt_of_cell? _ _ HK0.out)).trans HK0.out
        have LE := Aside0.mk (List.length_eraseIdx_of_lt hn)
        clear hr11 O10 O9 O8 R8 R9 B8 B9
        cases hk2 : (k1 == 2) with
        | true =>
          have N11 := Aside0.mk (show NetAt 80 xs.length (xs.eraseIdx n) v6 g w w10 by have := N10.out; rwa [if_pos hk2] at this)
          go_wp2_with fail
          refine (list_any N11.out).mono ?_
          rintro e w12 ⟨u12, rfl, hO, hb⟩
          obtain ⟨A12, k12, rfl, hr12, -, -⟩ := OwnL.row hO
          have R12 := Aside0.mk hr12
          have S12 := Aside0.mk (RowL.below R11.out hb)
          have N12 := Aside0.mk (N11.out.below hb)
          clear hO hb hr12
          go_wp2_with fail
          refine (same_any R12.out S12.out (by have := LE.out; have := hl100.out; omega) (by have := LE.out; have := hl100.out; omega)).mono ?_
          rintro e w13 ⟨r, rfl, hr, hb⟩
          obtain rfl : r = true := hr.2 rfl
          have N13 := Aside0.mk (N12.out.below hb)
          clear hr hb
          go_wp2
          go_ret
          exact ⟨rfl, N13.out.bel⟩
        | false =>
          have N11 := Aside0.mk (show NetAt 80 xs.length xs v6 g w w10 by have := N10.out; rwa [if_neg (by rw [hk2]; simp)] at this)
          go_wp2_with fail
          refine (list_any N11.out).mono ?_
          rintro e w12 ⟨u12, rfl, hO, hb⟩
          obtain ⟨A12, k12, rfl, hr12, -, -⟩ := OwnL.row hO
          have R12 := Aside0.mk hr12
          have N12 := Aside0.mk (N11.out.below hb)
          have S12 := Aside0.mk (RowL.below R.out N12.out.bel)
          clear hO hb hr12
          go_wp2_with fail
          refine (same_any R12.out S12.out (by have := hl100.out; omega) (by have := hl100.out; omega)).mono ?_
          rintro e w13 ⟨r, rfl, hr, hb⟩
          obtain rfl : r = true := hr.2 rfl
          have N13 := Aside0.mk (N12.out.below hb)
          clear hr hb
          go_wp2
          go_ret
          exact ⟨rfl, N13.out.bel⟩
      · have hc2 : n + 1 < c := by omega
        go_wp2_with fail
        refine wp_region_any (by kernel_rfl) ?_
        (try (change wpAny _ _ _ _ _ _ _ (World.drew _)))
        refine wpAny_take (i := 1) (v := ?_) rfl (by kernel_rfl) (by kernel_rfl) (by kernel_rfl) (fun _ _ _ h => h) (Or.inl ⟨by kernel_rfl, ?_⟩) ?_
        rotate_left
        · intro w; go_simp; try (with_reducible rfl)
        rotate_left
        refine wpAny_take (i := 2) (v := ?_) rfl (by kernel_rfl) (by kernel_rfl) (by kernel_rfl) (fun _ _ _ h => h) (Or.inl ⟨by kernel_rfl, ?_⟩) ?_
        rotate_left
        · intro w; go_simp; try (with_reducible rfl)
        rotate_left
        refine wpAny_take (i := 3) (v := ?_) rfl (by kernel_rfl) (by kernel_rfl) (by kernel_rfl) (fun _ _ _ h => h) (Or.inl ⟨by kernel_rfl, ?_⟩) ?_
        rotate_left
        · intro w; go_simp; try (with_reducible rfl)
        rotate_left
        refine wpAny_take (i := 5) (v := ?_) rfl (by kernel_rfl) (by kernel_rfl) (by kernel_rfl) (fun _ _ _ h => h) (Or.inl ⟨by kernel_rfl, ?_⟩) ?_
        rotate_left
        · intro w; go_simp; try (with_reducible rfl)
        rotate_left
        refine wpAny_take (i := 6) (v := ?_) rfl (by kernel_rfl) (by kernel_rfl) (by kernel_rfl) (fun _ _ _ h => h) (Or.inl ⟨by kernel_rfl, ?_⟩) ?_
        rotate_left
        · intro w; go_simp; try (with_reducible rfl)
        rotate_left
        refine wpAny_take (i := 7) (v := ?_) rfl (by kernel_rfl) (by kernel_rfl) (by kernel_rfl) (fun _ _ _ h => h) (Or.inl ⟨by kernel_rfl, ?_⟩) ?_
        rotate_left
        · intro w; go_simp; try (with_reducible rfl)
        rotate_left
        refine wpAny_take (i := 8) (v := ?_) rfl (by kernel_rfl) (by kernel_rfl) (by kernel_rfl) (fun _ _ _ h => h) (Or.inl ⟨by kernel_rfl, ?_⟩) ?_
        rotate_left
        · intro w; go_simp; try (with_reducible rfl)
        rotate_left
        refine wpAny_ready (rs := [0]) (by kernel_rfl) (by simp) ?_
        refine AllReady.cons rfl (fun K hK => ?_) AllReady.nil
        go_simp
        refine hK _ _ ?_
        clear hK K
        refine wpAny_ready (rs := [4]) (by kernel_rfl) (by simp) ?_
        refine AllReady.cons rfl (fun K hK => ?_) AllReady.nil
        refine step_app2 (ys := xs.take n) rfl _ _ rfl rfl rfl LT.out O8.out (RowL.take R8.out n) (by simp; have := hl100.out; omega) B8.out.size ?_
        intro v9 w9 hO1 hg1 hs1
        have O9 := Aside0.mk hO1
        have B9 := Aside0.mk (show Below w6.heap.size w6 w9 from B8.out.grown hg1 B8.out.size (fun k hk => (OwnL.lt O8.out k hk).1))
        have R9 := Aside0.mk (RowL.below R.out (N6.out.below B9.out).bel)
        clear hO1 hg1 hs1
        (try go_simp)
        refine hK _ _ ?_
        clear hK K
        refine wpAny_ready (rs := [9]) (by kernel_rfl) (by simp) ?_
        refine AllReady.cons rfl (fun K hK => ?_) AllReady.nil
        refine step_app2 (ys := xs.drop (n + 1)) rfl _ _ rfl rfl rfl (by have := LD.out; omega) O9.out (RowL.drop R9.out (n + 1)) (by simp; have := hl100.out; omega) B9.out.size ?_
        intro v10 w10 hO1 hg1 hs1
        have O10 := Aside0.mk hO1
        have B10 := Aside0.mk (show Below w6.heap.size w6 w10 from B9.out.grown hg1 B9.out.size (fun k hk => (OwnL.lt O9.out k hk).1))
        clear hO1 hg1 hs1
        (try go_simp)
        refine hK _ _ ?_
        clear hK K
        refine wpAny_take (i := 10) (v := ?_) rfl (by kernel_rfl) (by kernel_rfl) (by kernel_rfl) (fun _ _ _ h => h) (Or.inl ⟨by kernel_rfl, ?_⟩) ?_
        rotate_left
        · intro w; go_simp; try (with_reducible rfl)
        rotate_left
        refine wpAny_done (by kernel_rfl) ?_ _
        have O11 := Aside0.mk (show OwnL w6.heap.size v10 (xs.eraseIdx n) w10 by rw [ER.out]; exact O10.out)
        obtain ⟨A11, k11, rfl, hr11, -, -⟩ := OwnL.row O11.out
        have R11 := Aside0.mk hr11
        have N10 := Aside0.mk (N6.out.below B10.out)
        have hk10 : w10.cell? (ad.add (n * 11)) = some (.int .i64 k1) := (N10.out.bel.cell (World.block_lt_of_cell? _ _ HK0.out)).trans HK0.out
        have LE := Aside0.mk (List.length_eraseIdx_of_lt hn)
        clear hr11 O10 O9 O8 R8 R9 B8 B9
        cases hk2 : (k1 == 2) with
        | true =>
          have N11 := Aside0.mk (show NetAt 80 xs.length (xs.eraseIdx n) v6 g w w10 by have := N10.out; rwa [if_pos hk2] at this)
          go_wp2_with fail
          refine (list_any N11.out).mono ?_
          rintro e w12 ⟨u12, rfl, hO, hb⟩
          obtain ⟨A12, k12, rfl, hr12, -, -⟩ := OwnL.row hO
          have R12 := Aside0.mk hr12
          have S12 := Aside0.mk (RowL.below R11.out hb)
          have N12 := Aside0.mk (N11.out.below hb)
          clear hO hb hr12
          go_wp2_with fail
          refine (same_any R12.out S12.out (by have := LE.out; have := hl100.out; omega) (by have := LE.out; have := hl100.out; omega)).mono ?_
          rintro e w13 ⟨r, rfl, hr, hb⟩
          obtain rfl : r = true := hr.2 rfl
          have N13 := Aside0.mk (N12.out.below hb)
          clear hr hb
          go_wp2
          go_ret
          exact ⟨rfl, N13.out.bel⟩
        | false =>
          have N11 := Aside0.mk (show NetAt 80 xs.length xs v6 g w w10 by have := N10.out; rwa [if_neg (by rw [hk2]; simp)] at this)
          go_wp2_with fail
          refine (list_any N11.out).mono ?_
          rintro e w12 ⟨u12, rfl, hO, hb⟩
          obtain ⟨A12, k12, rfl, hr12, -, -⟩ := OwnL.row hO
          have R12 := Aside0.mk hr12
          have N12 := Aside0.mk (N11.out.below hb)
          have S12 := Aside0.mk (RowL.below R.out N12.out.bel)
          clear hO hb hr12
          go_wp2_with fail
          refine (same_any R12.out S12.out (by have := hl100.out; omega) (by have := hl100.out; omega)).mono ?_
          rintro e w13 ⟨r, rfl, hr, hb⟩
          obtain rfl : r = true := hr.2 rfl
          have N13 := Aside0.mk (N12.out.below hb)
          clear hr hb
          go_wp2
          go_ret
          exact ⟨rfl, N13.out.bel⟩

end Go.Proofs.Ytedfjadgfkbfiaa.NetW
