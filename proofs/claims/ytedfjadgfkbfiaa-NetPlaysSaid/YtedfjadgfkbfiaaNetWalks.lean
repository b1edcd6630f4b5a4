/- What the methods of the net do, as contracts over a net in memory. -/
import Derived.Test.YtedfjadgfkbfiaaNetState
import Derived.Test.YtedfjadgfkbfiaaNetDel
import Derived.Deep.QuietTactic
import Derived.Deep.RegionHeld3
import Derived.Deep.DeepCutAuto

namespace Go.Proofs.Ytedfjadgfkbfiaa.NetW
open Go.RowKit Go.Proofs.YtedfjadgfkbfiaaW.PrintWords Go.Proofs.Ytedfjadgfkbfiaa.Opens
set_option linter.unusedVariables false
set_option linter.unusedSimpArgs false
attribute [local go_sem] nil27 World.cell?_alloc_some

theorem bdN (w : World) (n : Nat) : Below w.heap.size w (w.drewN n) := ⟨rfl, rfl, rfl, Nat.le_refl _, fun _ _ => rfl⟩
theorem new_at {r n : Int} {w0 w : World} (h : n = roomOf r) (hb : Below w0.heap.size w0 w) : NetAt 80 (roomOf r) [] (.slice none 0 0) w.heap.size w0 (w.alloc (.cells #[.int .i64 n, .slice none 0 0] 80)) := by
  subst h
  have hr := roomOf_ok r
  exact ⟨blk_new w _, OwnL.nil _ _, hb.size, ⟨hr.1, hr.2, by simpa using hr.1⟩, below_alloc hb _, by decide⟩
/-- The store of the new list. -/
theorem stored {T : TypeId} {rm : Int} {xs xs' : List LetR} {v v1 : Value} {g : Nat} {w0 w w1 : World} (hN : NetAt T rm xs v g w0 w) (hO : OwnL w0.heap.size v1 xs' w1) (hc : Chg g v.ownBlock w w1) (hB : w1.heap[g]? = some (.cells #[.int .i64 rm, v] T (0, 0))) (hs : Since w.heap.size v v1) (hl : (xs'.length : Int) ≤ rm) :
    NetAt T rm xs' v1 g w0 (w1.setCell ⟨g, 1, none⟩ v1) ∧ Chg g v.ownBlock w (w1.setCell ⟨g, 1, none⟩ v1) := by
  have hC := hc.set 1 v1
  refine ⟨⟨by simpa using blk_set hB 1 v1, ?_, hN.base, ⟨hN.room.1, hN.room.2.1, hl⟩, hN.bel.trans (hC.below hN.base (fun k hk => (OwnL.lt hN.own k hk).1) hN.bel.size), hN.2.2.2.2.2⟩, hC⟩
  have hne := own_ne hO hB hN.2.2.2.2.2
  refine World.ownsRow.kept hO (row := some g) ⟨rfl, rfl, rfl, by simp, fun k hk hne => Below.heap_setCell w1 ⟨g, 1, none⟩ v1 k (fun e => hne (by rw [e]))⟩ ?_
  exact .inr hne

set_option maxHeartbeats 4000000 in
set_option maxRecDepth 100000 in
theorem new_any (r : Int) (w0 w : World) (hb : Below w0.heap.size w0 w) :
    Calls Try.prog 16 #[.int .i64 r] w fun e w' => e = .returned (.pointer (some ⟨w.heap.size, 0, none⟩)) ∧ NetAt 80 (roomOf r) [] (.slice none 0 0) w.heap.size w0 w' ∧ Below w.heap.size w w' := by
  go_enter Try.func16, Try.ntmps16
  go_wp2
  all_goals
    go_ret
    exact ⟨rfl, new_at (by unfold roomOf; omega) hb, below_alloc (Below.refl _ _) _⟩

set_option maxHeartbeats 4000000 in
set_option maxRecDepth 100000 in
theorem list_any {rm : Int} {xs : List LetR} {v : Value} {g : Nat} {w0 w : World} (hN : NetAt 80 rm xs v g w0 w) :
    Calls Try.prog 17 #[.pointer (some ⟨g, 0, none⟩)] w fun e w' => ∃ u, e = .returned u ∧ OwnL w.heap.size u xs w' ∧ Below w.heap.size w w' := by
  obtain ⟨A, c, rfl, hr, hc, hn⟩ := OwnL.row hN.own
  have c1 : w.cell? ⟨g, 1, none⟩ = some (.slice A xs.length c) := (blk_cell hN.blk 1).trans rfl
  have hroom := hN.room
  have R := Aside0.mk hr
  clear hN hr
  go_enter Try.func17, Try.ntmps17
  go_wp2_with fail
  refine (clone_any R.out hn (by omega)).mono ?_
  rintro e w1 ⟨u, rfl, ho, hb⟩
  go_wp2
  go_ret
  exact ⟨u, rfl, ho, hb⟩

set_option maxHeartbeats 4000000 in
set_option maxRecDepth 100000 in
theorem send_no {rm : Int} {xs ys : List LetR} {v : Value} {g c2 : Nat} {A2 : Option Addr} {w0 w : World} (hN : NetAt 80 rm xs v g w0 w) (hl : ys.length ≤ 9223372036854775807) (hgo : ¬ ((ys.length : Int) ≤ rm - xs.length)) :
    Calls Try.prog 18 #[.pointer (some ⟨g, 0, none⟩), .slice A2 ys.length c2] w (NPost 80 (.bool false) rm xs v g w0 w) := by
  obtain ⟨A, c, rfl, hr, hc, hn⟩ := OwnL.row hN.own
  have c0 : w.cell? ⟨g, 0, none⟩ = some (.int .i64 rm) := (blk_cell hN.blk 0).trans rfl
  have c1 : w.cell? ⟨g, 1, none⟩ = some (.slice A xs.length c) := (blk_cell hN.blk 1).trans rfl
  obtain ⟨hr1, hr2, hr3⟩ := hN.room
  have N := Aside0.mk hN
  have hw : wrap64 (rm - (xs.length : Int)) = rm - (xs.length : Int) := by unfold wrap64; omega
  have hgt : rm - (xs.length : Int) < (ys.length : Int) := by omega
  clear hN hr hgo
  go_enter Try.func18, Try.ntmps18
  go_wp2_with fail
  go_quiet (fail)
  go_wp2
  go_ret
  exact ⟨_, rfl, N.out.below (bdN _ _), Chg.of_below _ _ (bdN _ _), .inl rfl⟩

set_option maxHeartbeats 4000000 in
set_option maxRecDepth 100000 in
theorem send_yes {rm : Int} {xs ys : List LetR} {v : Value} {g c2 : Nat} {A2 : Option Addr} {w0 w : World} (hN : NetAt 80 rm xs v g w0 w) (hR : RowL w A2 ys) (hgo : (ys.length : Int) ≤ rm - xs.length) :
    Calls Try.prog 18 #[.pointer (some ⟨g, 0, none⟩), .slice A2 ys.length c2] w (NPost 80 (.bool true) rm (xs ++ ys) v g w0 w) := by
  have RR := Aside0.mk hR
  obtain ⟨A, c, rfl, hr, hc, hn⟩ := OwnL.row hN.own
  have c0 : w.cell? ⟨g, 0, none⟩ = some (.int .i64 rm) := (blk_cell hN.blk 0).trans rfl
  have c1 : w.cell? ⟨g, 1, none⟩ = some (.slice A xs.length c) := (blk_cell hN.blk 1).trans rfl
  obtain ⟨hr1, hr2, hr3⟩ := hN.room
  have N := Aside0.mk hN
  have hw : wrap64 (rm - (xs.length : Int)) = rm - (xs.length : Int) := by unfold wrap64; omega
  have hgt : (ys.length : Int) ≤ rm - (xs.length : Int) := by omega
  have hgt2 : ¬ (rm - (xs.length : Int) < (ys.length : Int)) := by omega
  clear hN hr hgo hR
  go_enter Try.func18, Try.ntmps18
  go_wp2_with fail
  go_quiet (fail)
  have N2 := Aside0.mk (NetAt.below N.out (bdN w nq))
  have R2 := Aside0.mk (RowL.below RR.out (bdN w nq))
  have C2 := Aside0.mk (Chg.of_below g (Value.slice A xs.length c).ownBlock (bdN w nq))
  go_wp2_with (at_builtin; refine list_app rfl _ _ rfl rfl rfl (by exact N2.out.own) (by exact R2.out) (by omega) (by exact N2.out.bel.size) ?_; intro v1 w1 hO1 hg1 hs1; obtain ⟨A1, n1, k1, rfl⟩ : ∃ A n c, v1 = .slice A n c := (by obtain ⟨A, c, h, _⟩ := OwnL.row hO1; exact ⟨_, _, _, h⟩); have O1 := Aside0.mk hO1; have G1 := Aside0.mk hg1; have S1 := Aside0.mk hs1; have B1 := Aside0.mk (blk_grown N2.out.blk hg1 (fun e => N2.out.ne e.symm)); clear hO1 hg1 hs1; have y1 : w1.cell? ⟨g, 1, none⟩ = some (.slice A xs.length c) := (blk_cell B1.out 1).trans rfl; have z1 : w1.frozen? ⟨g, 1, none⟩ = false := blk_frozen B1.out 1)
  go_ret
  have hst := stored N.out O1.out (C2.out.trans (Chg.of_grown g G1.out) (.inl rfl)) B1.out S1.out (by simp; omega)
  exact ⟨_, rfl, hst.1, hst.2, S1.out⟩

set_option maxHeartbeats 4000000 in
set_option maxRecDepth 100000 in
theorem take_no {rm : Int} {xs : List LetR} {v : Value} {g : Nat} {i : Int} {w0 w : World} (hN : NetAt 80 rm xs v g w0 w) (hi : inside xs i = false) :
    Calls Try.prog 20 #[.pointer (some ⟨g, 0, none⟩), .int .i64 i] w (NPost 80 (.tuple #[letV l0, .bool false]) rm xs v g w0 w) := by
  obtain ⟨A, c, rfl, hr, hc, hn⟩ := OwnL.row hN.own
  have N := Aside0.mk hN
  have hz : w.heap.size ≠ g := by have := hN.lt; omega
  have HB := Aside0.mk (blk_below hN.blk (below_alloc (Below.refl _ _) (.cells #[.int .i64 0, .int .i64 0, .int .i64 0, .int .i64 0, .int .i64 0, .int .i64 0, .bool false, .int .i64 0, .bool false, .bool false, .int .i64 0] 36)))
  have hi' : decide (0 ≤ i ∧ i < (xs.length : Int)) = false := hi
  clear hN hr hi
  go_enter Try.func20, Try.ntmps20
  go_wp2_with fail
  refine (is_any g rm A xs.length c i _ HB.out).mono ?_
  rintro e w1 ⟨rfl, rfl⟩
  rw [hi']
  go_wp2
  refine bodyPost_ret (v := .tuple #[letV l0, .bool false]) (by simp [results, Try.results20, go_sem]; rfl) rfl ?_
  exact ⟨_, rfl, N.out.below (below_alloc (Below.refl _ _) _), Chg.of_below _ _ (below_alloc (Below.refl _ _) _), .inl rfl⟩

end Go.Proofs.Ytedfjadgfkbfiaa.NetW
