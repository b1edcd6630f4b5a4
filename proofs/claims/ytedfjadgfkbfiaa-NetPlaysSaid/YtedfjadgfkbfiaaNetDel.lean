/- One letter struck from a row. -/
import Derived.Test.YtedfjadgfkbfiaaNetLib
import Derived.WalkKit
import Derived.Deep.RegionLaw
namespace Go.Proofs.Ytedfjadgfkbfiaa.NetW
open Go.RowKit Go.Proofs.YtedfjadgfkbfiaaW.PrintWords Go.Proofs.Ytedfjadgfkbfiaa.Opens
set_option linter.unusedVariables false
set_option linter.unusedSimpArgs false

set_option maxHeartbeats 4000000 in
set_option maxRecDepth 100000 in
theorem delete_any {B g cap i : Nat} {xs : List LetR} {w : World} (hO : OwnL B (.slice (some ⟨g, 0, none⟩) xs.length cap) xs w) (hi : i < xs.length) :
    Calls Try.prog 44 #[.slice (some ⟨g, 0, none⟩) xs.length cap, .int .i64 i, .int .i64 ((i : Int) + 1)] w fun e w' => e = .returned (.slice (some ⟨g, 0, none⟩) (xs.length - 1) cap) ∧ OwnL B (.slice (some ⟨g, 0, none⟩) (xs.length - 1) cap) (xs.eraseIdx i) w' ∧ w.grownBy w' (some g) := by
  obtain ⟨cur, hg, hnc, hcs, htk, hBg, hcm⟩ : ∃ cur : Array Value, w.heap[g]? = some (.cells cur 36 (0, 0)) ∧ xs.length ≤ cap ∧ cur.size = cap * 11 ∧ cur.toList.take (xs.length * 11) = flat xs ∧ B ≤ g ∧ cap ≤ maxLen := by
    rcases hO.2 with ⟨h, _⟩ | ⟨g', cap', cur, h, hb, hg, hnc, hm, hcs, htk⟩
    · simp at h
    · simp at h
      obtain ⟨rfl, rfl⟩ := h
      exact ⟨cur, hg, hnc, hcs, htk, hb, hm⟩
  have hrow : RowL w (some ⟨g, 0, none⟩) xs := by
    obtain ⟨A, c, h, hr, _⟩ := OwnL.row hO
    simp at h
    rw [← h.1] at hr
    exact hr
  have hlast : xs.length - (i + 1) = (xs.drop (i + 1)).length := by simp
  have hi1 : i + (xs.drop (i + 1)).length = xs.length - 1 := by simp; omega
  have FIN := Aside0.mk (show ∀ cur1 cur2 : Array Value, cur1.size = cap * 11 → cur1.toList.take ((i + (xs.drop (i + 1)).length) * 11) = cur.toList.take (i * 11) ++ flat (xs.drop (i + 1)) → cur2.size = cur1.size → cur2.toList.take ((xs.length - 1) * 11) = cur1.toList.take ((xs.length - 1) * 11) →
      OwnL B (.slice (some ⟨g, 0, none⟩) (xs.length - 1) cap) (xs.eraseIdx i) ((w.drew.setRow g cur1).setRow g cur2) ∧ w.grownBy ((w.drew.setRow g cur1).setRow g cur2) (some g) from by
    intro cur1 cur2 h1 h2 h3 h4
    have hgd : w.drew.heap[g]? = some (.cells cur 36 (0, 0)) := hg
    have el : (xs.eraseIdx i).length = xs.length - 1 := by rw [List.length_eraseIdx_of_lt hi]
    refine ⟨⟨by rw [flat_len], .inr ⟨g, cap, cur2, by rw [el], hBg, setRow_heap _ g cur1 cur2 36 (0, 0) (setRow_heap _ g cur cur1 36 (0, 0) hgd), by rw [el]; omega, hcm, by omega, ?_⟩⟩, ⟨rfl, rfl, rfl, by simp, fun k hk hne => ?_⟩⟩
    · rw [el, h4, ← hi1, h2, List.eraseIdx_eq_take_drop_succ, flat_append, ← flat_take xs i (by omega), ← htk, List.take_take, Nat.min_eq_left (by omega)]
    · have hk : k ≠ g := fun e => hne (by rw [e])
      exact (setRow_other _ g k _ hk).trans (setRow_other _ g k _ hk))
  have FIN0 := Aside0.mk (show cap = i + 1 → ∀ cur2 : Array Value, cur2.size = cur.size → cur2.toList.take (i * 11) = cur.toList.take (i * 11) →
      OwnL B (.slice (some ⟨g, 0, none⟩) i (i + 1)) (xs.eraseIdx i) (w.drew.setRow g cur2) ∧ w.grownBy (w.drew.setRow g cur2) (some g) from by
    intro hc cur2 h3 h4
    have hx : xs.length = i + 1 := by omega
    have := FIN.out cur cur2 hcs (by rw [List.drop_eq_nil_of_le (by omega)]; simp [flat]) h3 (by rw [hx]; exact h4)
    rw [setRow_self w.drew g cur 36 (0, 0) hg, hx, hc] at this
    exact this)
  have G := Aside0.mk hg
  have R := Aside0.mk hrow
  have HL := Aside0.mk hlast
  have H1 := Aside0.mk hi1
  clear hlast hi1
  have hc63 : cap ≤ 9223372036854775807 := by unfold maxLen at hcm; omega
  clear hO hrow hg htk hBg hcm
  by_cases hc : cap = i + 1
  · have hx1 : xs.length = i + 1 := by omega
    have q1 : (i : Int) ≤ (i : Int) + 1 := by omega
    have q2 : (0 : Int) ≤ (i : Int) := by omega
    have q3 : (i : Int) ≤ (cap : Int) := by omega
    have q4 : (i : Int) + 1 ≤ (xs.length : Int) := by omega
    have q5 : (0 : Int) ≤ (i : Int) + 1 := by omega
    have q6 : (i : Int) + 1 ≤ (cap : Int) := by omega
    go_enter Try.func44, Try.ntmps44
    go_wp2_with fail
    go_region_law (fail)
    all_goals
      go_wp2_with (refine list_clear rfl _ rfl rfl (by omega) (by exact G.out) (by omega) ?_; intro cur2 h3 h4; have K3 := Aside0.mk h3; have K4 := Aside0.mk h4; clear h3 h4)
      go_ret
      exact ⟨by rw [hx1, hc]; rfl, by have := FIN0.out hc cur2 K3.out K4.out; rw [hx1, hc]; exact this.1, (FIN0.out hc cur2 K3.out K4.out).2⟩
  · have hc2 : i + 1 < cap := by omega
    have hno : Aside0 (∀ j u, (flat (xs.drop (i + 1)))[j]? = some u → w.drew.cell? ((⟨g, (i + 1) * 11, none⟩ : Addr).add j) = some u) := ⟨by
      intro j u hu
      have hj := (List.getElem?_eq_some_iff.1 hu).1
      rw [← flat_drop xs (i + 1) (by omega), List.getElem?_drop] at hu
      have := RowL.news R.out _ u hu
      rw [← Go.Deep.add_add] at this
      simpa [Addr.add] using this⟩
    have q1 : (i : Int) ≤ (i : Int) + 1 := by omega
    have q2 : (0 : Int) ≤ (i : Int) := by omega
    have q3 : (i : Int) ≤ (cap : Int) := by omega
    have q4 : (i : Int) + 1 ≤ (xs.length : Int) := by omega
    have q5 : (0 : Int) ≤ (i : Int) + 1 := by omega
    have q6 : (i : Int) + 1 ≤ (cap : Int) := by omega
    go_enter Try.func44, Try.ntmps44
    go_wp2_with fail
    go_region_law (refine step_del rfl _ _ rfl rfl rfl (by have h9 := HL.out; omega) (by exact hno.out) (by exact G.out) (by have h9 := H1.out; omega) hcs ?_; rw [H1.out]; intro cur1 h1 h2; have K1 := Aside0.mk h1; have K2 := Aside0.mk h2; clear h1 h2)
    all_goals
      go_wp2_with (refine list_clear rfl _ rfl rfl (by omega) (setRow_heap _ g cur cur1 36 (0, 0) (by exact G.out)) (by have := K1.out; omega) ?_; intro cur2 h3 h4; have K3 := Aside0.mk h3; have K4 := Aside0.mk h4; clear h3 h4)
      go_ret
      exact ⟨rfl, FIN.out cur1 cur2 K1.out (by rw [H1.out]; exact K2.out) K3.out K4.out⟩

end Go.Proofs.Ytedfjadgfkbfiaa.NetW
