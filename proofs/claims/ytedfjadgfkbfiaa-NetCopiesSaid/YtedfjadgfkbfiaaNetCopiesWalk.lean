/- NetCopies, walked. -/
import Derived.Test.YtedfjadgfkbfiaaNetPlay
namespace Go.Proofs.Ytedfjadgfkbfiaa.NetW
open Go.RowKit Go.Proofs.YtedfjadgfkbfiaaW.PrintWords Go.Proofs.Ytedfjadgfkbfiaa.Opens
set_option linter.unusedVariables false
set_option linter.unusedSimpArgs false
attribute [local go_sem] nil27 World.cell?_alloc_some
attribute [local go_sem high] eqA36

theorem Off.later {u v2 : Value} {B g2 : Nat} {xs : List LetR} {w : World} (ho : OwnL B u xs w) (hg : w.heap.size ≤ g2) (hv : Fresh w.heap.size v2) : Off u g2 v2 := by
  refine ⟨fun e => by have := (OwnL.lt ho g2 e).2; omega, ?_⟩
  cases h : u.ownBlock with
  | none => exact .inl rfl
  | some k => exact .inr (fun e => by have h1 := (OwnL.lt ho k h).2; have h2 := hv k e.symm; omega)

set_option maxHeartbeats 4000000 in
set_option maxRecDepth 100000 in
theorem copies_any (room : Int) {A A2 : Option Addr} {xs xs2 : List ActN} {c c2 : Nat} (w : World) (hR : RowN w A xs) (hl : xs.length ≤ 9223372036854775807) (hR2 : RowN w A2 xs2) (hl2 : xs2.length ≤ 9223372036854775807) : Calls Try.prog 8 #[.int .i64 room, .slice A xs.length c, .slice A2 xs2.length c2] w (RN true w) := by
  have R := Aside0.mk hR
  have R2 := Aside0.mk hR2
  clear hR hR2
  cases hgr : (decide (200 < xs.length) || xs.any fun a => decide (50 < a.2.2.2.2.length)) with
  | true =>
    go_enter Try.func8, Try.ntmps8
    go_wp2_with fail
    refine (awake_any _).mono ?_
    rintro e w1 ⟨rfl, hb⟩
    have B1 := Aside0.mk hb
    clear hb
    go_wp2_with fail
    refine (great_any _ (R.out.below B1.out) hl).mono ?_
    rintro e w2 ⟨rfl, hb⟩
    have B2 := Aside0.mk (B1.out.trans (hb.mono B1.out.size))
    clear hb
    rw [hgr]
    go_wp2_with fail
    refine (awake_any _).mono ?_
    rintro e w3 ⟨rfl, hb⟩
    have B3 := Aside0.mk (B2.out.trans (hb.mono B2.out.size))
    clear hb
    go_wp2
    go_ret
    exact ⟨rfl, B3.out⟩
  | false =>
    cases hgr2 : (decide (200 < xs2.length) || xs2.any fun a => decide (50 < a.2.2.2.2.length)) with
    | true =>
      go_enter Try.func8, Try.ntmps8
      go_wp2_with fail
      refine (awake_any _).mono ?_
      rintro e w1 ⟨rfl, hb⟩
      have B1 := Aside0.mk hb
      clear hb
      go_wp2_with fail
      refine (great_any _ (R.out.below B1.out) hl).mono ?_
      rintro e w2 ⟨rfl, hb⟩
      have B2 := Aside0.mk (B1.out.trans (hb.mono B1.out.size))
      clear hb
      rw [hgr]
      go_wp2_with fail
      refine (great_any _ (R2.out.below B2.out) hl2).mono ?_
      rintro e w3 ⟨rfl, hb⟩
      have B3 := Aside0.mk (B2.out.trans (hb.mono B2.out.size))
      clear hb
      rw [hgr2]
      go_wp2_with fail
      refine (awake_any _).mono ?_
      rintro e w4 ⟨rfl, hb⟩
      have B4 := Aside0.mk (B3.out.trans (hb.mono B3.out.size))
      clear hb
      go_wp2
      go_ret
      exact ⟨rfl, B4.out⟩
    | false =>
      go_enter Try.func8, Try.ntmps8
      go_wp2_with fail
      refine (awake_any _).mono ?_
      rintro e w1 ⟨rfl, hb⟩
      have B1 := Aside0.mk hb
      clear hb
      go_wp2_with fail
      refine (great_any _ (R.out.below B1.out) hl).mono ?_
      rintro e w2 ⟨rfl, hb⟩
      have B2 := Aside0.mk (B1.out.trans (hb.mono B1.out.size))
      clear hb
      rw [hgr]
      go_wp2_with fail
      refine (great_any _ (R2.out.below B2.out) hl2).mono ?_
      rintro e wa ⟨rfl, hb⟩
      have B3 := Aside0.mk (B2.out.trans (hb.mono B2.out.size))
      clear hb
      rw [hgr2]
      clear hgr hgr2
      go_wp2_with fail
      refine (new_any room w _ B3.out).mono ?_
      rintro e w3 ⟨rfl, hN, -⟩
      have N3 := Aside0.mk hN
      clear hN
      generalize wa.heap.size = g at *
      have hroom := roomOf_ok room
      generalize hrm : roomOf room = rm at *
      go_wp2_with fail
      refine (play_any N3.out R.out hl).mono ?_
      rintro e w4 ⟨v4, rfl, hN, -, -⟩
      have N4 := Aside0.mk hN
      clear hN
      generalize playN rm [] xs = p1 at *
      go_wp2_with fail
      refine (list_any N4.out).mono ?_
      rintro e w5 ⟨u5, rfl, hO, hb⟩
      have O5 := Aside0.mk hO
      have N5 := Aside0.mk (N4.out.below hb)
      have F5 := Aside0.mk (Off.fresh (OwnL.fresh hO) N4.out (Nat.le_refl _))
      clear hO hb
      go_wp2_with fail
      refine (copy_any N5.out).mono ?_
      rintro e w6 ⟨g2, u6, rfl, hM, hb, hg, hf⟩
      have M6 := Aside0.mk hM
      have N6 := Aside0.mk (N5.out.below hb)
      have O6 := Aside0.mk (OwnL.below O5.out hb)
      have P6 := Aside0.mk (Apt.fresh N5.out hg hf)
      have F6 := Aside0.mk (Off.later O5.out hg hf)
      clear hM hb hg hf
      go_wp2_with fail
      refine (play_any N6.out R2.out hl2).mono ?_
      rintro e w7 ⟨v7, rfl, hN, hC, hS⟩
      have N7 := Aside0.mk hN
      have M7 := Aside0.mk (M6.out.frame hC P6.out.symm hN.bel)
      have O7 := Aside0.mk (OwnL.frame O6.out hC F5.out)
      have P7 := Aside0.mk (Apt.symm (Apt.since P6.out.symm M6.out hS))
      clear hN hC hS
      generalize hp2 : playN rm p1 xs2 = p2 at *
      have Q2 := Aside0.mk hp2
      clear hp2
      go_wp2_with fail
      refine (list_any M7.out).mono ?_
      rintro e w8 ⟨u8, rfl, hO, hb⟩
      obtain ⟨A8, k8, rfl, hr8, -, -⟩ := OwnL.row hO
      have R8 := Aside0.mk hr8
      have O8 := Aside0.mk (OwnL.below O7.out hb)
      have N8 := Aside0.mk (N7.out.below hb)
      have M8 := Aside0.mk (M7.out.below hb)
      clear hO hb hr8
      obtain ⟨A5, k5, rfl, hr5, -, -⟩ := OwnL.row O8.out
      have R5 := Aside0.mk hr5
      have L1 := Aside0.mk M8.out.room
      clear hr5
      go_wp2_with fail
      refine (same_any R8.out R5.out (by have := L1.out; omega) (by have := L1.out; omega)).mono ?_
      rintro e w9 ⟨r, rfl, hr, hb⟩
      obtain rfl : r = true := hr.2 rfl
      have N9 := Aside0.mk (N8.out.below hb)
      have M9 := Aside0.mk (M8.out.below hb)
      clear hr hb
      go_wp2_with fail
      refine (play_any M9.out R2.out hl2).mono ?_
      rintro e w10 ⟨v10, rfl, hN, hC, hS⟩
      have M10 := Aside0.mk (show NetAt 80 rm p2 v10 g2 w w10 by rw [← Q2.out]; exact hN)
      have N10 := Aside0.mk (N9.out.frame hC P7.out hN.bel)
      clear hN hC hS
      go_wp2_with fail
      refine (list_any M10.out).mono ?_
      rintro e w11 ⟨u11, rfl, hO, hb⟩
      obtain ⟨A11, k11, rfl, hr11, -, -⟩ := OwnL.row hO
      have R11 := Aside0.mk hr11
      have N11 := Aside0.mk (N10.out.below hb)
      clear hO hb hr11
      go_wp2_with fail
      refine (list_any N11.out).mono ?_
      rintro e w12 ⟨u12, rfl, hO, hb⟩
      obtain ⟨A12, k12, rfl, hr12, -, -⟩ := OwnL.row hO
      have R12 := Aside0.mk hr12
      have S12 := Aside0.mk (RowL.below R11.out hb)
      have N12 := Aside0.mk (N11.out.below hb)
      have L2 := Aside0.mk N12.out.room
      clear hO hb hr12
      go_wp2_with fail
      refine (same_any S12.out R12.out (by have := L2.out; omega) (by have := L2.out; omega)).mono ?_
      rintro e w13 ⟨r, rfl, hr, hb⟩
      obtain rfl : r = true := hr.2 rfl
      have N13 := Aside0.mk (N12.out.below hb)
      clear hr hb
      go_wp2
      go_ret
      exact ⟨rfl, N13.out.bel⟩

end Go.Proofs.Ytedfjadgfkbfiaa.NetW
