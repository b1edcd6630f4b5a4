/- What a run of calls of the net comes to. -/
import Derived.Test.YtedfjadgfkbfiaaNetAwake
import Derived.Deep.DeepCutAuto
import Derived.Deep.LoopGhost
namespace Go.Proofs.Ytedfjadgfkbfiaa.NetW
open Go.RowKit Go.Proofs.YtedfjadgfkbfiaaW.PrintWords Go.Proofs.Ytedfjadgfkbfiaa.Opens
set_option linter.unusedVariables false
set_option linter.unusedSimpArgs false
attribute [local go_sem] nil27 World.cell?_alloc_some
attribute [local go_sem high] eqA36

/-- The net's letters behind a call; behind some calls. -/
def stepN (rm : Int) (zs : List LetR) : ActN → List LetR
  | (k, p, _, _, ys) => if k = 1 then sent rm zs ys else if k = 2 then taken zs p else if k = 3 then dropped zs p else zs
def playN (rm : Int) (zs : List LetR) (xs : List ActN) : List LetR := xs.foldl (stepN rm) zs
theorem takeN_succ {xs : List ActN} {i : Nat} {x : ActN} (h : i < xs.length) (hx : xs.getD i n0 = x) : xs.take (i + 1) = xs.take i ++ [x] := by
  subst hx
  rw [List.take_add_one]; simp [List.getD_eq_getElem?_getD, h]
theorem playN_succ {rm : Int} {zs : List LetR} {xs : List ActN} {i : Nat} {x : ActN} (h : i < xs.length) (hx : xs.getD i n0 = x) : playN rm zs (xs.take (i + 1)) = stepN rm (playN rm zs (xs.take i)) x := by
  rw [takeN_succ h hx]; simp [playN]
theorem Since.refl (n : Nat) (v : Value) : Since n v v := .inl rfl
theorem Since.trans {n m : Nat} {a b c : Value} (h : Since n a b) (k : Since m b c) (hm : n ≤ m) : Since n a c := by
  rcases k with e | ⟨x, e, hx⟩
  · rcases h with e' | ⟨y, e', hy⟩
    · exact .inl (e.trans e')
    · exact .inr ⟨y, e.trans e', hy⟩
  · exact .inr ⟨x, e, Nat.le_trans hm hx⟩
theorem Since.rel {n : Nat} {a b : Value} (h : Since n a b) : b.ownBlock = a.ownBlock ∨ ∃ k, b.ownBlock = some k ∧ n ≤ k := h

set_option maxHeartbeats 4000000 in
set_option maxRecDepth 100000 in
theorem play_any {rm : Int} {zs0 : List LetR} {v0 : Value} {g : Nat} {w0 w : World} {A : Option Addr} {xs : List ActN} {c : Nat} (hN : NetAt 80 rm zs0 v0 g w0 w) (hR : RowN w0 A xs) (hl : xs.length ≤ 9223372036854775807) :
    Calls Try.prog 27 #[.pointer (some ⟨g, 0, none⟩), .slice A xs.length c] w (NPost 80 (.tuple #[]) rm (playN rm zs0 xs) v0 g w0 w) := by
  have R := Aside0.mk hR
  have N := Aside0.mk hN
  clear hR hN
  go_enter Try.func27, Try.ntmps27
  go_wp2_with fail
  go_loopw [8] (fun v8 wx => ∃ (i : Nat) (v : Value), v8 = .int .i64 i ∧ i ≤ xs.length ∧ Aside0 (NetAt 80 rm (playN rm zs0 (xs.take i)) v g w0 wx) ∧ Aside0 (Chg g v0.ownBlock w wx) ∧ Aside0 (Since w.heap.size v0 v)) (fun v8 _ => xs.length - (intOf v8).toNat)
  case atStart => exact ⟨0, v0, rfl, Nat.zero_le _, ⟨by simpa [playN] using N.out⟩, ⟨Chg.refl _ _ _⟩, ⟨Since.refl _ _⟩⟩
  case round =>
    obtain ⟨wz, rfl⟩ : ∃ wz : World, wz = wr := ⟨_, rfl⟩
    obtain ⟨i, v, rfl, hi, NN, CC, SS⟩ := hrel
    clear N
    by_cases hlt : i < xs.length
    · have hq : (i : Int) < (xs.length : Int) := by omega
      have hq0 : (0 : Int) ≤ (i : Int) := by omega
      obtain ⟨ad, kd, p, B, c2, ys, rfl, hx, d0, d1, d2, hr, hy⟩ := (RowN.below R.out NN.out.bel).at_ hlt
      have HX := Aside0.mk hx
      have RY := Aside0.mk hr
      clear hx hr
      have PS := Aside0.mk (playN_succ (rm := rm) (zs := zs0) hlt HX.out)
      generalize playN rm zs0 (xs.take i) = zs at *
      have N4 := Aside0.mk (NN.out.below (below_alloc (Below.refl _ wz) (.cells #[.int .i64 kd, .int .i64 p, .slice B ys.length c2] 29)))
      have R4 := Aside0.mk (RowL.below RY.out (below_alloc (Below.refl _ wz) (.cells #[.int .i64 kd, .int .i64 p, .slice B ys.length c2] 29)))
      have C4 := Aside0.mk (CC.out.trans (Chg.of_below g v0.ownBlock (below_alloc (Below.refl _ wz) (.cells #[.int .i64 kd, .int .i64 p, .slice B ys.length c2] 29))) (.inl rfl))
      have S4 := SS
      have Z4 := Aside0.mk (show w.heap.size ≤ (wz.alloc (.cells #[.int .i64 kd, .int .i64 p, .slice B ys.length c2] 29)).heap.size from C4.out.size)
      clear NN RY CC SS
      by_cases h1 : kd = 1
      · have k1 : (kd == 1) = true := beq_iff_eq.2 h1
        have e1 := Aside0.mk (show stepN rm zs (kd, p, B, c2, ys) = sent rm zs ys from if_pos h1)
        clear h1
        go_wp2_with fail
        generalize wz.alloc (.cells #[.int .i64 kd, .int .i64 p, .slice B ys.length c2] 29) = w4 at *
        refine (send_any N4.out hy R4.out).mono ?_
        rintro e w5 ⟨v5, rfl, hN, hC, hS⟩
        have N5 := Aside0.mk (show NetAt 80 rm (stepN rm zs (kd, p, B, c2, ys)) v5 g w0 w5 by rw [e1.out]; exact hN)
        have C5 := Aside0.mk (C4.out.trans hC (Since.rel S4.out))
        have S5 := Aside0.mk (S4.out.trans hS Z4.out)
        clear hN hC hS
        go_wp2
        go_roundw
        case rel => exact ⟨i + 1, v5, by go_num, by omega, ⟨by rw [PS.out]; exact N5.out⟩, C5, S5⟩
        case measure => simp [intOf]; omega
      · have k1 : (kd == 1) = false := beq_eq_false_iff_ne.2 h1
        by_cases h2 : kd = 2
        · have k2 : (kd == 2) = true := beq_iff_eq.2 h2
          have e1 := Aside0.mk (show stepN rm zs (kd, p, B, c2, ys) = taken zs p from (if_neg h1).trans (if_pos h2))
          clear h1 h2
          go_wp2_with fail
          generalize wz.alloc (.cells #[.int .i64 kd, .int .i64 p, .slice B ys.length c2] 29) = w4 at *
          refine (take_any p N4.out).mono ?_
          rintro e w5 ⟨v5, rfl, hN, hC, hS⟩
          have N5 := Aside0.mk (show NetAt 80 rm (stepN rm zs (kd, p, B, c2, ys)) v5 g w0 w5 by rw [e1.out]; exact hN)
          have C5 := Aside0.mk (C4.out.trans hC (Since.rel S4.out))
          have S5 := Aside0.mk (S4.out.trans hS Z4.out)
          clear hN hC hS
          go_wp2
          go_roundw
          case rel => exact ⟨i + 1, v5, by go_num, by omega, ⟨by rw [PS.out]; exact N5.out⟩, C5, S5⟩
          case measure => simp [intOf]; omega
        · have k2 : (kd == 2) = false := beq_eq_false_iff_ne.2 h2
          by_cases h3 : kd = 3
          · have k3 : (kd == 3) = true := beq_iff_eq.2 h3
            have e1 := Aside0.mk (show stepN rm zs (kd, p, B, c2, ys) = dropped zs p from (if_neg h1).trans ((if_neg h2).trans (if_pos h3)))
            clear h1 h2 h3
            go_wp2_with fail
            generalize wz.alloc (.cells #[.int .i64 kd, .int .i64 p, .slice B ys.length c2] 29) = w4 at *
            refine (drop_any p N4.out).mono ?_
            rintro e w5 ⟨v5, rfl, hN, hC, hS⟩
            have N5 := Aside0.mk (show NetAt 80 rm (stepN rm zs (kd, p, B, c2, ys)) v5 g w0 w5 by rw [e1.out]; exact hN)
            have C5 := Aside0.mk (C4.out.trans hC (Since.rel S4.out))
            have S5 := Aside0.mk (S4.out.trans hS Z4.out)
            clear hN hC hS
            go_wp2
            go_roundw
            case rel => exact ⟨i + 1, v5, by go_num, by omega, ⟨by rw [PS.out]; exact N5.out⟩, C5, S5⟩
            case measure => simp [intOf]; omega
          · have k3 : (kd == 3) = false := beq_eq_false_iff_ne.2 h3
            have e1 := Aside0.mk (show stepN rm zs (kd, p, B, c2, ys) = zs from (if_neg h1).trans ((if_neg h2).trans (if_neg h3)))
            clear h1 h2 h3
            have N5 := Aside0.mk (show NetAt 80 rm (stepN rm zs (kd, p, B, c2, ys)) v g w0 (wz.alloc (.cells #[.int .i64 kd, .int .i64 p, .slice B ys.length c2] 29)) by rw [e1.out]; exact N4.out)
            go_wp2
            go_roundw
            case rel => exact ⟨i + 1, v, by go_num, by omega, ⟨by rw [PS.out]; exact N5.out⟩, C4, S4⟩
            case measure => simp [intOf]; omega
    · have : i = xs.length := by omega
      subst this
      go_wp2
      have h := NN.out
      rw [List.take_length] at h
      exact bodyPost_ret (v := .tuple #[]) (by simp [results, Try.results27, go_sem]) rfl ⟨v, rfl, h, CC.out, SS.out⟩

end Go.Proofs.Ytedfjadgfkbfiaa.NetW
