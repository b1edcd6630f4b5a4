/- What num.Mod leaves over lies from 0 on, below the divisor, and is left over of itself; num.Clamp of a clamped number is that number. No conditions. -/
import Derived.Test.YtghgmfnebiicgaaPNumSmallx1
import Derived.Test.YtghgmfnebiicgaaNumAid
namespace Go.Proofs.Ytghgmfnebiicgaa.Pure
open Go.RowKit Go.Proofs.Ytghgmfnebiicgaa.PNumSmall Go.Proofs.YtghgmfnebiicgaaW.PrintWords Go.Proofs.YtghgmfnebiicgaaW.PrintLast Go.Proofs.YtghgmfnebiicgaaW.PrintMore Go.Proofs.Ytghgmfnebiicgaa.Aid

theorem NumSmall_awake : jetonlaw01_awake.f 20 = some true := by kernel_rfl

theorem NumSmall_mod (n m : Int) (h : 1 ≤ m) (hm : m ≤ 9223372036854775807) : ∃ r, num_Mod.f n m = some r ∧ 0 ≤ r ∧ r < m := by
  unfold num_Mod.f
  rw [if_neg (by omega), if_neg (by omega)]
  have h1 := Int.tmod_lt_of_pos n (show 0 < m by omega)
  have h2 := Int.lt_tmod_of_pos n (show 0 < m by omega)
  by_cases h3 : Int.tmod n m < 0
  · rw [if_pos h3, w64 (by omega) (by omega)]; exact ⟨_, rfl, by omega, by omega⟩
  · rw [if_neg h3]; exact ⟨_, rfl, by omega, by omega⟩

theorem NumSmall : jetonlaw01_NumSmall.Pure := by
  intro n m lo _ wm _
  have bm := wf64 wm
  refine ⟨20, ?_⟩
  have hc : mx (mn (mx (mn n m) lo) m) lo = mx (mn n m) lo := by
    unfold mx mn; (repeat' split) <;> omega
  unfold jetonlaw01_NumSmall.f num_Clamp.f
  rw [NumSmall_awake]
  by_cases h : m < 1
  · have e : ∀ x, num_Mod.f x m = some 0 := fun x => by unfold num_Mod.f; rw [if_pos h]
    rw [e]
    simp only [Option.bind_some]
    rw [e]
    simp [h, hc]
  · obtain ⟨r, hr, h0, h1⟩ := NumSmall_mod n m (by omega) bm.2
    have e : num_Mod.f r m = some r := by
      unfold num_Mod.f
      rw [if_neg (by omega), if_neg (by omega), Int.tmod_eq_of_lt h0 h1, if_neg (by omega)]
    rw [hr]
    simp only [Option.bind_some]
    rw [e]
    simp [h, h0, h1, hc]

end Go.Proofs.Ytghgmfnebiicgaa.Pure
