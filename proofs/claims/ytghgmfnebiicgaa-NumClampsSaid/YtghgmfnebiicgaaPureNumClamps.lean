/- num.Clamp and num.Mod are the reference's Clamp and Mod at every three numbers. No conditions. -/
import Derived.Test.YtghgmfnebiicgaaPNumClampsx1
import Derived.OpenShut
namespace Go.Proofs.Ytghgmfnebiicgaa.Pure
open Go.RowKit Go.Proofs.Ytghgmfnebiicgaa.PNumClamps Go.Proofs.YtghgmfnebiicgaaW.PrintWords Go.Proofs.YtghgmfnebiicgaaW.PrintLast Go.Proofs.YtghgmfnebiicgaaW.PrintMore

theorem NumClamps_awake : jetonlaw01_awake.f 20 = some true := by kernel_rfl

theorem NumClamps : jetonlaw01_NumClamps.Pure := by
  intro n lo hi _ _ _
  refine ⟨20, ?_⟩
  have hc : jetonref01_Clamp.f 20 n lo hi = some (mx (mn n hi) lo) := by
    simp only [jetonref01_Clamp.f, jetonref01_Clamp.j0, mx, mn]
    repeat' split
    all_goals first | rfl | (simp_all <;> omega)
  have hm : jetonref01_Mod.f n hi = num_Mod.f n hi := rfl
  have hs : ∃ r, num_Mod.f n hi = some r := by
    unfold num_Mod.f
    repeat' split
    all_goals first | exact ⟨_, rfl⟩ | omega
  obtain ⟨r, hr⟩ := hs
  unfold jetonlaw01_NumClamps.f
  rw [NumClamps_awake, hc, hm, hr]
  simp [num_Clamp.f]

end Go.Proofs.Ytghgmfnebiicgaa.Pure
