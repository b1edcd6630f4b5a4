/- ProcCopies, walked. -/
import Derived.Test.YtedfjadgfkbfiaaProcDo
import Derived.Test.YtedfjadgfkbfiaaSlices
import Derived.Test.YtedfjadgfkbfiaaWEqStruct
import Derived.Deep.LoopGhost
import Derived.Deep.DeepCutAuto
import Derived.WalkKit
import Derived.Lib.SmallJoins
import Derived.OpenShut
import Derived.Carry
namespace Go.Proofs.Ytedfjadgfkbfiaa.ProcW
open Go.RowKit Go.Proofs.YtedfjadgfkbfiaaW.PrintWords Go.Proofs.YtedfjadgfkbfiaaW.PrintLast Go.Proofs.YtedfjadgfkbfiaaW.PrintMore Go.Proofs.Ytedfjadgfkbfiaa.Timer Go.Proofs.Ytedfjadgfkbfiaa.Aid Go.Proofs.Ytedfjadgfkbfiaa.Opens
set_option linter.unusedVariables false
set_option linter.unusedSimpArgs false

theorem cp_drew {w : World} {a : Addr} {v : Value} (h : w.cell? a = some v) : w.drew.cell? a = some v := h
theorem info3 : (Try.prog.info? 3).map (fun i => (i.zero, i.size, i.bytes)) = some (some (.int .i64 0), 1, 8) := by kernel_rfl
/-- The processor behind k calls; what they told. -/
def P.sofar (s : P) (f : Nat → ActR) : Nat → P
  | 0 => s
  | k + 1 => (P.sofar s f k).act (f k)
def P.told (s : P) (f : Nat → ActR) : Nat → List Int
  | 0 => []
  | k + 1 => P.told s f k ++ [(P.sofar s f k).tells (f k)]
theorem P.told_len (s : P) (f : Nat → ActR) : ∀ k, (P.told s f k).length = k
  | 0 => rfl
  | k + 1 => by simp [P.told, P.told_len s f k]
/-- A list of ints that the call itself has built. -/
abbrev Own (B : Nat) (v : Value) (zs : List Int) (W : World) : Prop := W.ownsRow B 3 1 v zs.length (zs.map (Value.int .i64))
theorem Own.ne {B : Nat} {v : Value} {zs : List Int} {W w0 : World} {s : P} {g : Nat} (h : Own B v zs W) (hs : s.at_ g w0 W) : v.ownBlock ≠ some g := by
  rcases h.2 with ⟨rfl, _⟩ | ⟨g1, cap, cur, rfl, _, hg, _⟩
  · simp [Value.ownBlock]
  · intro e
    simp [Value.ownBlock] at e
    subst e
    have := hs.1
    rw [hg] at this
    simp at this
theorem Own.but {B : Nat} {v : Value} {zs : List Int} {W W1 w0 : World} {s : P} {g : Nat} (h : Own B v zs W) (hs : s.at_ g w0 W) (hk : KeepBut W W1 g none) : Own B v zs W1 :=
  hk.own h (h.ne hs) (by cases hv : v.ownBlock with | none => exact .inl rfl | some b => exact .inr (by simp))
theorem Own.below {B : Nat} {v : Value} {zs : List Int} {W W1 : World} (h : Own B v zs W) (hb : Below W.heap.size W W1) : Own B v zs W1 :=
  World.ownsRow.kept h (grown_of_below hb none) (by cases hv : v.ownBlock with | none => exact .inl rfl | some b => exact .inr (by simp))
theorem P.grown {B : Nat} {v : Value} {zs : List Int} {W W1 w0 : World} {s : P} {g : Nat} (hs : s.at_ g w0 W) (h : Own B v zs W) (hg : W.grownBy W1 v.ownBlock) : s.at_ g w0 W1 :=
  PProcPlays.IsS86.grown hs hg (Ne.symm (h.ne hs))
theorem Own.below_grown {B : Nat} {v : Value} {zs : List Int} {W W1 w0 : World} (hb : Below w0.heap.size w0 W) (hB : w0.heap.size ≤ B) (h : Own B v zs W) (hg : W.grownBy W1 v.ownBlock) : Below w0.heap.size w0 W1 :=
  hb.grown hg hb.size (fun k hk => Nat.le_trans hB (World.ownsRow.lt h k hk).1)
/-- Behind an append of one. -/
theorem Own.step {B : Nat} {v' : Value} {zs : List Int} {W1 : World} {z : Int} {n : Nat} (hn : zs.length = n) (h : W1.ownsRow B 3 1 v' (n + 1) (zs.map (Value.int .i64) ++ [.int .i64 z])) : Own B v' (zs ++ [z]) W1 := by
  subst hn; simpa [Own] using h
theorem Own.other {B B' : Nat} {v u : Value} {zs ys : List Int} {W W1 : World} (h : Own B v zs W) (hlt : ∀ k, v.ownBlock = some k → k < B') (hu : Own B' u ys W) (hg : W.grownBy W1 u.ownBlock) : Own B v zs W1 :=
  World.ownsRow.kept h hg (by
    cases hv : v.ownBlock with
    | none => exact .inl rfl
    | some b =>
      refine .inr ?_
      intro e
      have h1 := hlt b hv
      have h2 := (World.ownsRow.lt hu b e.symm).1
      omega)
theorem Own.reads {B : Nat} {v : Value} {zs : List Int} {W : World} (h : Own B v zs W) : ∃ A c, v = .slice A zs.length c ∧ ∀ i, i < zs.length → ∃ ad, A = some ad ∧ W.cell? (ad.add i) = some (.int .i64 (zs.getD i 0)) := by
  rcases h.2 with ⟨rfl, hn⟩ | ⟨g1, cap, cur, rfl, _, hg, _⟩
  · rw [hn]; exact ⟨none, 0, rfl, fun i hi => by omega⟩
  · refine ⟨_, cap, rfl, fun i hi => ⟨_, rfl, ?_⟩⟩
    refine World.ownsRow.cells h (g := g1) rfl i _ ?_
    simp [List.getD_eq_getElem?_getD, hi]

open Go.ChangeShapes Go.WideShapes Go.Joins Go.Deep in
theorem row_cap {H : Type} {enc : TypeId × Value → H} {P : Program} {w : World} {base : Nat} {spare : Nat → Bool} {held : Bool} {t e : TypeId} {a : Option Addr} {len cap fuel : Nat} {x : DataW H × List MemPlace} (ht : P.underlying t = some (.slice e))
    (h : DataW.trod enc P w base spare held fuel t [.slice a len cap] = some x) : len ≤ cap ∧ cap ≤ maxLen ∧ (a = none → cap = 0) := by
  rcases open_slice ht h with ⟨hcs, _⟩ | ⟨ad, len', cap', m, n, D, Pl, hcs, _, hl, hm, hmm, _, hx⟩
  · simp at hcs
    obtain ⟨rfl, rfl, rfl⟩ := hcs
    exact ⟨Nat.le_refl _, Nat.zero_le _, fun _ => rfl⟩
  · simp at hcs
    obtain ⟨rfl, rfl, rfl⟩ := hcs
    exact ⟨hl, hm, fun e => by simp at e⟩

theorem _root_.Go.Proofs.Ytedfjadgfkbfiaa.Opens.Row.drop {α : Type} {f : α → List Value} {d : α} {sz : Nat} {W : World} {ad : Addr} {xs : List α} (h : Row f d sz W (some ad) xs) (k : Nat) : Row f d sz W (some (ad.add (k * sz))) (xs.drop k) := by
  intro i hi
  simp at hi
  obtain ⟨a, e, hc⟩ := h (k + i) (by omega)
  simp at e
  subst e
  refine ⟨_, rfl, fun j hj => ?_⟩
  rw [Go.Deep.add_add, show k * sz + (i * sz + j) = (k + i) * sz + j from by rw [Nat.add_mul]; omega, hc j hj]
  congr 2
  simp [List.getD_eq_getElem?_getD]

set_option maxHeartbeats 4000000 in
set_option maxRecDepth 100000 in
theorem copies_any (x t : Int) (A : Option Addr) (cap : Nat) (xs : List ActR) (hx : x ≤ 9223372036854775807) (ht : t ≤ 9223372036854775807) (w : World) (hR : Row actCells (0, 0, false, 0) 4 w A xs) (hlen : xs.length ≤ 9223372036854775807) (hcap : xs.length ≤ cap) (hcap2 : cap ≤ 9223372036854775807) (hA : A = none → cap = 0) :
    Calls Try.prog 12 #[.int .i64 x, .int .i64 t, .slice A xs.length cap] w (RB true w) := by
  have R0 := Aside0.mk hR
  have F0 := Aside0.mk (P.new_fits x t hx ht)
  clear hR hx ht
  by_cases h300 : (200 : Int) < (xs.length : Int)
  · go_enter Try.func12, Try.ntmps12
    go_wp2_with fail
    refine (awake_any _).mono ?_
    rintro e w1 ⟨rfl, hb⟩
    have B1 := Aside0.mk hb
    clear hb
    go_wp2_with fail
    refine (awake_any _).mono ?_
    rintro e w2 ⟨rfl, hb⟩
    have B2 := Aside0.mk (B1.out.trans (hb.mono B1.out.size))
    clear hb
    go_wp2
    go_ret
    exact ⟨rfl, B2.out⟩
  · go_enter Try.func12, Try.ntmps12
    go_wp2_with fail
    refine (awake_any _).mono ?_
    rintro e w1 ⟨rfl, hb⟩
    have B1 := Aside0.mk hb
    clear hb
    go_wp2_with fail
    refine (new_any x t w _ B1.out).mono ?_
    rintro e w2 ⟨g, rfl, hs, hb1, -, -⟩
    have S2 := Aside0.mk hs
    have B2 := Aside0.mk hb1
    clear hs hb1
    go_wp2_with fail
    rw [show ((xs.length : Int) / 2) = ((xs.length / 2 : Nat) : Int) from by omega]
    have hh1 : 2 * (xs.length / 2) ≤ xs.length := by omega
    generalize hh : xs.length / 2 = h at *
    clear hh
    go_loopw [39] (fun v39 wr => ∃ (k : Nat) (s : P), v39 = .int .i64 k ∧ k ≤ h ∧ Aside0 (s.at_ g w wr) ∧ Aside0 (Below w.heap.size w wr) ∧ Aside0 s.fits) (fun v39 _ => h - (intOf v39).toNat)
    case atStart => exact ⟨0, _, rfl, Nat.zero_le _, S2, B2, F0⟩
    case round =>
      clear S2 B2
      obtain ⟨k, s, rfl, hk, S, B, F⟩ := hrel
      have hk2 : (k : Int) ≤ 9223372036854775807 := by omega
      by_cases hlt : k < h
      · have hq : (k : Int) < (h : Int) := by omega
        have hq0 : (0 : Int) ≤ (k : Int) := by omega
        obtain ⟨ad, rfl, hcell⟩ := (R0.out.below (fun _ => rfl) B.out) k (by omega)
        have d0 := hcell 0 (by omega)
        have d1 := hcell 1 (by omega)
        have d2 := hcell 2 (by omega)
        have d3 := hcell 3 (by omega)
        generalize xs.getD k (0, 0, false, 0) = o at *
        obtain ⟨kd, b, wr', v⟩ := o
        simp only [actCells, opCells, List.getElem?_cons_zero, List.getElem?_cons_succ] at d0 d1 d2 d3
        clear hcell
        rw [← Go.Deep.add_add] at d1 d2 d3
        have e0 : wr.cell? (ad.add (k * 4)) = some (.int .i64 kd) := d0
        have e1 : wr.cell? ⟨(ad.add (k * 4)).block, (ad.add (k * 4)).off + 1, none⟩ = some (.int .i64 b) := by simpa [Addr.add] using d1
        have e2 : wr.cell? ⟨(ad.add (k * 4)).block, (ad.add (k * 4)).off + 2, none⟩ = some (.bool wr') := by simpa [Addr.add] using d2
        have e3 : wr.cell? ⟨(ad.add (k * 4)).block, (ad.add (k * 4)).off + 3, none⟩ = some (.int .i64 v) := by simpa [Addr.add] using d3
        clear d0 d1 d2 d3
        go_wp2_with fail
        refine (do_any kd b v wr' F.out (P.below S.out (below_alloc (Below.refl _ _) _)) (below_alloc B.out (.cells #[.int .i64 kd, .int .i64 b, .bool wr', .int .i64 v] 69))).mono ?_
        rintro e w3 ⟨rfl, hs, hb1, hk1⟩
        have S3 := Aside0.mk hs
        have B3 := Aside0.mk hb1
        clear hs hb1 hk1
        go_wp2
        go_roundw
        case rel => exact ⟨k + 1, _, by go_num, by omega, S3, B3, ⟨P.act_fits (kd, b, wr', v) F.out⟩⟩
        case measure => simp [intOf]; omega
      · have : k = h := by omega
        subst this
        clear hlt hk
        go_wp2_with fail
        refine (copy_any g s.L s.T s.O s.wt s.tr s.nm s.B s.W s.V s.bz _ (P.blk S.out)).mono ?_
        rintro e w3 ⟨rfl, rfl⟩
        have NX := Aside0.mk (show wr.heap.size ≠ g by have h8 := P.lt S.out; omega)
        have T3 := Aside0.mk (show s.at_ wr.heap.size w (wr.alloc (.cells #[.int .i64 s.L, .int .i64 s.T, .bool s.O, .int .i64 s.wt, .int .i64 s.tr, .int .i64 s.nm, .int .i64 s.B, .bool s.W, .int .i64 s.V, .bool s.bz] 86)) from ⟨blk_new wr _, B.out.size⟩)
        have S3 := Aside0.mk (P.below S.out (below_alloc (Below.refl _ _) (.cells #[.int .i64 s.L, .int .i64 s.T, .bool s.O, .int .i64 s.wt, .int .i64 s.tr, .int .i64 s.nm, .int .i64 s.B, .bool s.W, .int .i64 s.V, .bool s.bz] 86)))
        have B3 := Aside0.mk (below_alloc B.out (.cells #[.int .i64 s.L, .int .i64 s.T, .bool s.O, .int .i64 s.wt, .int .i64 s.tr, .int .i64 s.nm, .int .i64 s.B, .bool s.W, .int .i64 s.V, .bool s.bz] 86))
        generalize wr.alloc (.cells #[.int .i64 s.L, .int .i64 s.T, .bool s.O, .int .i64 s.wt, .int .i64 s.tr, .int .i64 s.nm, .int .i64 s.B, .bool s.W, .int .i64 s.V, .bool s.bz] 86) = wy at *
        generalize wr.heap.size = q at *
        clear S B
        rename_i hh2
        by_cases hkc : k = cap
        · have hx0 : xs.length = 0 := by omega
          have hk0 : k = 0 := by omega
          subst hkc
          subst hk0
          obtain rfl : xs = [] := List.eq_nil_of_length_eq_zero hx0
          go_wp2_with fail
          refine wp_loop_rounds 1 ?_
          rw [rounds_succ]
          go_wp2_with fail
          refine wp_loop_rounds 1 ?_
          rw [rounds_succ]
          go_wp2_with fail
          refine wp_loop_rounds 1 ?_
          rw [rounds_succ]
          go_wp2
          go_ret
          exact ⟨rfl, B3.out⟩
        · obtain ⟨ad, rfl⟩ : ∃ ad, A = some ad := by
            cases A with
            | none => exact absurd (hA rfl) (by omega)
            | some ad => exact ⟨ad, rfl⟩
          have hkc2 : k < cap := by omega
          have R2 := Aside0.mk (Row.drop (R0.out.below (fun _ => rfl) B3.out) k)
          have RW := Aside0.mk (Row.drop R0.out k)
          clear R2
          have hyl : (xs.drop k).length = xs.length - k := by simp
          go_wp2_with fail
          rw [← hyl]
          have hyl2 : (xs.drop k).length ≤ 200 := by omega
          generalize hgad : ad.add (k * 4) = ad2 at *
          generalize xs.drop k = ys at *
          have GA := Aside0.mk hgad
          have GL := Aside0.mk hyl
          clear hgad hyl
          obtain ⟨i0, hi, hz0, hz1, hz2⟩ := info_parts info3
          obtain ⟨f, hf⟩ : ∃ f : Nat → ActR, ∀ j, ys.getD j (0, 0, false, 0) = f j := ⟨_, fun _ => rfl⟩
          go_loopw [12, 55] (fun v12 v55 wr => ∃ j : Nat, v55 = .int .i64 j ∧ j ≤ ys.length ∧ Aside0 (Own w.heap.size v12 (s.told f j) wr) ∧ Aside0 ((s.sofar f j).at_ g w wr) ∧ Aside0 (s.at_ q w wr) ∧ Aside0 (Below w.heap.size w wr) ∧ Aside0 (s.sofar f j).fits) (fun _ v55 _ => ys.length - (intOf v55).toNat)
          case atStart => exact ⟨0, rfl, Nat.zero_le _, ⟨World.ownsRow_nil _ _ _ _⟩, S3, T3, B3, F⟩
          case round =>
            clear S3 T3 B3 R0
            obtain ⟨j, rfl, hj, O, S, T, B, F'⟩ := hrel
            have hk2 : (j : Int) ≤ 9223372036854775807 := by omega
            by_cases hlt : j < ys.length
            · have hq : (j : Int) < (ys.length : Int) := by omega
              have hq0 : (0 : Int) ≤ (j : Int) := by omega
              obtain ⟨ad3, hade, hcell⟩ := (RW.out.below (fun _ => rfl) B.out) j hlt
              simp at hade
              subst hade
              rw [hf] at hcell
              have d0 := hcell 0 (by omega)
              have d1 := hcell 1 (by omega)
              have d2 := hcell 2 (by omega)
              have d3 := hcell 3 (by omega)
              obtain ⟨⟨kd, b, wr', v⟩, hfj⟩ : ∃ o : ActR, f j = o := ⟨_, rfl⟩
              rw [hfj] at d0 d1 d2 d3
              simp only [actCells, opCells, List.getElem?_cons_zero, List.getElem?_cons_succ] at d0 d1 d2 d3
              clear hcell
              rw [← Go.Deep.add_add] at d1 d2 d3
              have e0 : wr.cell? (ad2.add (j * 4)) = some (.int .i64 kd) := d0
              have e1 : wr.cell? ⟨(ad2.add (j * 4)).block, (ad2.add (j * 4)).off + 1, none⟩ = some (.int .i64 b) := by simpa [Addr.add] using d1
              have e2 : wr.cell? ⟨(ad2.add (j * 4)).block, (ad2.add (j * 4)).off + 2, none⟩ = some (.bool wr') := by simpa [Addr.add] using d2
              have e3 : wr.cell? ⟨(ad2.add (j * 4)).block, (ad2.add (j * 4)).off + 3, none⟩ = some (.int .i64 v) := by simpa [Addr.add] using d3
              clear d0 d1 d2 d3
              go_wp2_with fail
              refine (do_any kd b v wr' F'.out (P.below S.out (below_alloc (Below.refl _ _) _)) (below_alloc B.out (.cells #[.int .i64 kd, .int .i64 b, .bool wr', .int .i64 v] 69))).mono ?_
              rintro e w4 ⟨rfl, hs, hb1, hk1⟩
              have S4 := Aside0.mk hs
              have B4 := Aside0.mk hb1
              have T4 := Aside0.mk (P.kept (P.below T.out (below_alloc (Below.refl _ _) _)) hk1 NX.out)
              have O4 := Aside0.mk (Own.but (Own.below O.out (below_alloc (Below.refl _ _) _)) (P.below S.out (below_alloc (Below.refl _ _) _)) hk1)
              clear hs hb1 hk1 S O T B
              have hl4 := P.told_len s f j
              go_wp2_with (at_builtin; refine wpList_append_own _ rfl _ _ 72 rfl w.heap.size 3 i0 (.int .i64 0) 1 8 Try.underlying72 hi hz0 hz1 hz2 rfl (by decide) _ _ _ rfl (World.ownsRow.alloc (by exact O4.out) _) ⟨w4.heap.size, 0, none⟩ 1 1 [.int .i64 ((s.sofar f j).tells (kd, b, wr', v))] rfl rfl ?c1 ?c2 ?c3 ?c4 ?c5 ?_)
              case c1 =>
                intro i u hu
                match i, hu with
                | 0, hu => simp at hu; subst hu; simp [Addr.add]
              case c2 => intro u hu; simp at hu; subst hu; rfl
              case c3 => unfold maxLen; omega
              case c4 => omega
              case c5 => have := B4.out.size; simp; omega
              intro v5 w5 hown hgrow _
              have O5 := Aside0.mk (show Own w.heap.size v5 (s.told f (j + 1)) w5 by rw [P.told, hfj]; exact Own.step hl4 hown)
              have S5 := Aside0.mk (show (s.sofar f (j + 1)).at_ g w w5 by rw [P.sofar, hfj]; exact P.grown (P.below S4.out (below_alloc (Below.refl _ _) _)) (World.ownsRow.alloc O4.out _) hgrow)
              have T5 := Aside0.mk (P.grown (P.below T4.out (below_alloc (Below.refl _ _) _)) (World.ownsRow.alloc O4.out _) hgrow)
              have B5 := Aside0.mk (Own.below_grown (below_alloc B4.out (.cells #[.int .i64 ((s.sofar f j).tells (kd, b, wr', v))] 3)) (Nat.le_refl _) (World.ownsRow.alloc O4.out _) hgrow)
              have F5 := Aside0.mk (show (s.sofar f (j + 1)).fits by rw [P.sofar, hfj]; exact P.act_fits _ F'.out)
              clear hown hgrow O4 S4 T4 B4
              go_wp2
              go_roundw
              case rel => exact ⟨j + 1, by go_num, by omega, O5, S5, T5, B5, F5⟩
              case measure => simp [intOf]; omega
            · have : j = ys.length := by omega
              subst this
              clear S F'
              have hlt2 := Aside0.mk (fun k hk => (World.ownsRow.lt O.out k hk).2)
              obtain ⟨w8, rfl⟩ : ∃ w8 : World, w8 = wr := ⟨_, rfl⟩
              clear hj hlt
              obtain ⟨O8, T8, B8⟩ : _ ∧ _ ∧ _ := ⟨O, T, B⟩
              clear O T B
              go_wp2_with fail
              rw [← GL.out, GA.out]
              clear GL GA
              go_loopw [13, 70] (fun v13 v70 wr => ∃ j : Nat, v70 = .int .i64 j ∧ j ≤ ys.length ∧ Aside0 (Own w8.heap.size v13 (s.told f j) wr) ∧ Aside0 (Own w.heap.size u12 (s.told f ys.length) wr) ∧ Aside0 ((s.sofar f j).at_ q w wr) ∧ Aside0 (Below w.heap.size w wr) ∧ Aside0 (s.sofar f j).fits ∧ Aside0 (w8.heap.size ≤ wr.heap.size)) (fun _ v70 _ => ys.length - (intOf v70).toNat)
              case atStart => exact ⟨0, rfl, Nat.zero_le _, ⟨World.ownsRow_nil _ _ _ _⟩, O8, T8, B8, F, ⟨Nat.le_refl _⟩⟩
              case round =>
                clear O8 T8
                obtain ⟨j, rfl, hj, O, V, S, B, F', G⟩ := hrel
                have hk2 : (j : Int) ≤ 9223372036854775807 := by omega
                by_cases hlt : j < ys.length
                · have hq : (j : Int) < (ys.length : Int) := by omega
                  have hq0 : (0 : Int) ≤ (j : Int) := by omega
                  obtain ⟨ad3, hade, hcell⟩ := (RW.out.below (fun _ => rfl) B.out) j hlt
                  simp at hade
                  subst hade
                  rw [hf] at hcell
                  have d0 := hcell 0 (by omega)
                  have d1 := hcell 1 (by omega)
                  have d2 := hcell 2 (by omega)
                  have d3 := hcell 3 (by omega)
                  obtain ⟨⟨kd, b, wr', v⟩, hfj⟩ : ∃ o : ActR, f j = o := ⟨_, rfl⟩
                  rw [hfj] at d0 d1 d2 d3
                  simp only [actCells, opCells, List.getElem?_cons_zero, List.getElem?_cons_succ] at d0 d1 d2 d3
                  clear hcell
                  rw [← Go.Deep.add_add] at d1 d2 d3
                  have e0 : wr.cell? (ad2.add (j * 4)) = some (.int .i64 kd) := d0
                  have e1 : wr.cell? ⟨(ad2.add (j * 4)).block, (ad2.add (j * 4)).off + 1, none⟩ = some (.int .i64 b) := by simpa [Addr.add] using d1
                  have e2 : wr.cell? ⟨(ad2.add (j * 4)).block, (ad2.add (j * 4)).off + 2, none⟩ = some (.bool wr') := by simpa [Addr.add] using d2
                  have e3 : wr.cell? ⟨(ad2.add (j * 4)).block, (ad2.add (j * 4)).off + 3, none⟩ = some (.int .i64 v) := by simpa [Addr.add] using d3
                  clear d0 d1 d2 d3
                  go_wp2_with fail
                  refine (do_any kd b v wr' F'.out (P.below S.out (below_alloc (Below.refl _ _) _)) (below_alloc B.out (.cells #[.int .i64 kd, .int .i64 b, .bool wr', .int .i64 v] 69))).mono ?_
                  rintro e w4 ⟨rfl, hs, hb1, hk1⟩
                  have S4 := Aside0.mk hs
                  have B4 := Aside0.mk hb1
                  have V4 := Aside0.mk (Own.but (Own.below V.out (below_alloc (Below.refl _ _) _)) (P.below S.out (below_alloc (Below.refl _ _) _)) hk1)
                  have O4 := Aside0.mk (Own.but (Own.below O.out (below_alloc (Below.refl _ _) _)) (P.below S.out (below_alloc (Below.refl _ _) _)) hk1)
                  have G4 := Aside0.mk (show w8.heap.size ≤ w4.heap.size by have h1 := hk1.1; have h2 := G.out; simp at h1; omega)
                  clear hs hb1 hk1 S O V B G
                  have hl4 := P.told_len s f j
                  go_wp2_with (at_builtin; refine wpList_append_own _ rfl _ _ 72 rfl w8.heap.size 3 i0 (.int .i64 0) 1 8 Try.underlying72 hi hz0 hz1 hz2 rfl (by decide) _ _ _ rfl (World.ownsRow.alloc (by exact O4.out) _) ⟨w4.heap.size, 0, none⟩ 1 1 [.int .i64 ((s.sofar f j).tells (kd, b, wr', v))] rfl rfl ?d1 ?d2 ?d3 ?d4 ?d5 ?_)
                  case d1 =>
                    intro i u hu
                    match i, hu with
                    | 0, hu => simp at hu; subst hu; simp [Addr.add]
                  case d2 => intro u hu; simp at hu; subst hu; rfl
                  case d3 => unfold maxLen; omega
                  case d4 => omega
                  case d5 => have := G4.out; simp; omega
                  intro v5 w5 hown hgrow _
                  have O5 := Aside0.mk (show Own w8.heap.size v5 (s.told f (j + 1)) w5 by rw [P.told, hfj]; exact Own.step hl4 hown)
                  have S5 := Aside0.mk (show (s.sofar f (j + 1)).at_ q w w5 by rw [P.sofar, hfj]; exact P.grown (P.below S4.out (below_alloc (Below.refl _ _) _)) (World.ownsRow.alloc O4.out _) hgrow)
                  have V5 := Aside0.mk (Own.other (World.ownsRow.alloc V4.out _) hlt2.out (World.ownsRow.alloc O4.out _) hgrow)
                  have G5 := Aside0.mk (show w8.heap.size ≤ w5.heap.size by have h1 := hgrow.size; have h2 := G4.out; simp at h1; omega)
                  have B5 := Aside0.mk (Own.below_grown (below_alloc B4.out (.cells #[.int .i64 ((s.sofar f j).tells (kd, b, wr', v))] 3)) B8.out.size (World.ownsRow.alloc O4.out _) hgrow)
                  have F5 := Aside0.mk (show (s.sofar f (j + 1)).fits by rw [P.sofar, hfj]; exact P.act_fits _ F'.out)
                  clear hown hgrow O4 S4 V4 B4 G4
                  go_wp2
                  go_roundw
                  case rel => exact ⟨j + 1, by go_num, by omega, O5, V5, S5, B5, F5, G5⟩
                  case measure => simp [intOf]; omega
                · have : j = ys.length := by omega
                  subst this
                  clear S F' G hlt2 RW hf
                  obtain ⟨w9, rfl⟩ : ∃ w9 : World, w9 = wr := ⟨_, rfl⟩
                  obtain ⟨A1, k1, rfl, hc1⟩ := Own.reads V.out
                  obtain ⟨A2, k2, rfl, hc2⟩ := Own.reads O.out
                  have RD := Aside0.mk (And.intro hc1 hc2)
                  have hlz : ys.length ≤ 200 := hyl2
                  have hl9 : (s.told f ys.length).length = ys.length := P.told_len s f ys.length
                  generalize s.told f ys.length = zs at *
                  clear hc1 hc2 V O
                  have B9 := B
                  clear B
                  go_wp2_with fail
                  go_loopw [83] (fun v83 wr => ∃ i : Nat, v83 = .int .i64 i ∧ i ≤ ys.length ∧ Aside0 (Below w9.heap.size w9 wr)) (fun v83 _ => ys.length - (intOf v83).toNat)
                  case atStart => exact ⟨0, rfl, Nat.zero_le _, ⟨Below.refl _ _⟩⟩
                  case round =>
                    obtain ⟨i, rfl, hi4, BB⟩ := hrel
                    have hk2 : (i : Int) ≤ 9223372036854775807 := by omega
                    by_cases hlt : i < ys.length
                    · have hq : (i : Int) < (ys.length : Int) := by omega
                      have hq0 : (0 : Int) ≤ (i : Int) := by omega
                      have hqz : (i : Int) < (zs.length : Int) := by omega
                      obtain ⟨a1, rfl, hc1⟩ := RD.out.1 i (by omega)
                      obtain ⟨a2, rfl, hc2⟩ := RD.out.2 i (by omega)
                      generalize zs.getD i 0 = z at *
                      have y1 : wr.cell? (a1.add i) = some (.int .i64 z) := (BB.out.cell (World.block_lt_of_cell? _ _ hc1)).trans hc1
                      have y2 : wr.cell? (a2.add i) = some (.int .i64 z) := (BB.out.cell (World.block_lt_of_cell? _ _ hc2)).trans hc2
                      clear hc1 hc2
                      go_wp2_with fail
                      go_region_held3 (fun x => x.cell? (a1.add i) = some (.int .i64 z) ∧ x.cell? (a2.add i) = some (.int .i64 z) ∧ Aside0 (Below w9.heap.size w9 x))
                        (((try go_split_ands); refine ⟨?_, ?_, ?_⟩ <;> first | (with_reducible assumption) | (with_reducible refine cp_drew ?_; with_reducible assumption) | exact ⟨BB.out.drew⟩))
                        (fail)
                      all_goals
                        go_split_ands
                        go_wp2
                        go_roundw
                        case rel => exact ⟨i + 1, by go_num, by omega, by assumption⟩
                        case measure => simp [intOf]; omega
                    · have : i = ys.length := by omega
                      subst this
                      go_wp2
                      go_ret
                      exact ⟨rfl, B9.out.trans (BB.out.mono B9.out.size)⟩
end Go.Proofs.Ytedfjadgfkbfiaa.ProcW
