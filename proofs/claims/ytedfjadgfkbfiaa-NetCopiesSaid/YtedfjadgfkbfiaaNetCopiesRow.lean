/- NetCopies: a copy has what was on its way, and knows nothing of what becomes of that; nor that of it. Conditions: those of the statement itself (200 calls of 50 letters at most are played). -/
import Derived.Test.YtedfjadgfkbfiaaRows
import Derived.Test.YtedfjadgfkbfiaaOpens
import Derived.Test.YtedfjadgfkbfiaaNetCopiesWalk
import Derived.WalkKit
import Derived.ProofKit
import Derived.OpenShut
import Derived.ChangeOld
import Derived.Below
import Derived.SizedLaws
namespace Go.Proofs.Ytedfjadgfkbfiaa.netCopies
open Go.ChangeShapes Go.WideShapes Go.ChangeAt Go.RowKit Go.Proofs.Ytedfjadgfkbfiaa.Opens 
set_option linter.unusedVariables false
theorem own : ownKnob Try.prog.godebug = none := by kernel_rfl
set_option maxRecDepth 100000 in
theorem lifted (os : Os) (started : os.Started) (H : Type) (enc : TypeId × Value → H) :
    ReturnsInHanded {} Try.checked os 8 .any (Rows.netCopiesSpec.pre6 enc Try.prog Try.f8 Rows.netCopiesRow.domain false) (Rows.netCopiesSpec.post enc Try.prog Try.f8 false true false false) := by
  refine returnsInHanded_of_change_sized (C := Try.checked) own started (by kernel_rfl) Try.func8
    (ChangeSpec.witness6 (enc := enc) (C := Try.checked) false ⟨#[], #[.int .i64 0, .slice none 0 0, .slice none 0 0], []⟩ 8 (by kernel_rfl) (by kernel_rfl) (by kernel_rfl) (by kernel_rfl)) ?_
  intro W base args ds gs before hval0 hW hcnd hsz0 _
  have hval : ∀ (j : Nat) t v, Try.f8.params[j]? = some t → args[j]? = some v → Value.okWide Try.prog W .any base t v := hval0
  have hW' := hW
  obtain ⟨p, q, hA0, hV, rfl, hfz, hnd⟩ := hW
  have hA : DataW.TrodAll enc Try.prog W 0 (fun _ => true) true Try.f8.params.toList args.toList ds p := hA0
  rw [Try.params8] at hA hval
  obtain ⟨v0, vs0, d0, ds0, p0, q0, hargs, rfl, rfl, h0, r0⟩ := trodAll_cons hA
  obtain ⟨v1, vs1, d1, ds1, p1, q1, rfl, rfl, rfl, h1, r1⟩ := trodAll_cons r0
  obtain ⟨v2, vs2, d2, ds2, p2, q2, rfl, rfl, rfl, h2, r2⟩ := trodAll_cons r1
  obtain ⟨rfl, rfl, rfl⟩ := trodAll_nil r2
  obtain rfl : args = #[v0, v1, v2] := by cases args; simp_all
  obtain ⟨rfl, rfl⟩ := trodVars_none hV
  obtain ⟨a0, rfl, rfl, rfl, w0⟩ := open_int Try.underlying3 (hval 0 3 v0 rfl rfl) h0
  obtain ⟨b1, len1, c1, rfl⟩ := okWide_slice Try.underlying22 (hval 1 22 v1 rfl rfl)
  have k1 := h1
  have lt1 : ∀ x ∈ p1, x.block < W.heap.size := by obtain ⟨m, hm⟩ := k1; exact DataW.trod_lt m _ _ _ hm
  obtain ⟨fuel1, hf1⟩ := h1
  obtain ⟨a1, cap1, l1, hc1, hle1, hm1, hn1, hr1, hg1⟩ := NetW.open_row3 NetW.nCells NetW.n0 (NetW.GoodN W) (sz := 3) Try.underlying22 (by kernel_rfl) NetW.leaf29 (show DataW.trod _ _ _ _ _ _ fuel1 22 [.slice b1 len1 c1] = _ by simpa [Value.cells] using hf1)
  simp at hc1
  obtain ⟨rfl, rfl, rfl⟩ := hc1
  have hz1 : l1.length ≤ 9223372036854775807 := by unfold maxLen at hm1; omega
  obtain ⟨b2, len2, c2, rfl⟩ := okWide_slice Try.underlying22 (hval 2 22 v2 rfl rfl)
  have k2 := h2
  have lt2 : ∀ x ∈ p2, x.block < W.heap.size := by obtain ⟨m, hm⟩ := k2; exact DataW.trod_lt m _ _ _ hm
  obtain ⟨fuel2, hf2⟩ := h2
  obtain ⟨a2, cap2, l2, hc2, hle2, hm2, hn2, hr2, hg2⟩ := NetW.open_row3 NetW.nCells NetW.n0 (NetW.GoodN W) (sz := 3) Try.underlying22 (by kernel_rfl) NetW.leaf29 (show DataW.trod _ _ _ _ _ _ fuel2 22 [.slice b2 len2 c2] = _ by simpa [Value.cells] using hf2)
  simp at hc2
  obtain ⟨rfl, rfl, rfl⟩ := hc2
  have hz2 : l2.length ≤ 9223372036854775807 := by unfold maxLen at hm2; omega
  refine (NetW.copies_any a0 W ⟨hr1, hg1⟩ hz1 ⟨hr2, hg2⟩ hz2).mono fun e W' ⟨he, bel⟩ => ?_
  subst he
  exact ⟨_, rfl, _, _, _, [], _, [], hW', trodAll_mk1 (shut_bool Try.underlying4 _), (trodAll_cons_mk (shut_int Try.underlying3 w0) (trodAll_cons_mk (Below.trod laid (by kernel_rfl) (of_decide_eq_true (by kernel_rfl)) k1 bel lt1) (trodAll_cons_mk (Below.trod laid (by kernel_rfl) (of_decide_eq_true (by kernel_rfl)) k2 bel lt2) trodAll_mk0))), rfl, bel.frame _, fun h => by cases h⟩
theorem over : Rows.netCopiesRow.holds Try.pinned (OpenSpec.ofChange Rows.netCopiesSpec) :=
  OpenClaim.holds_of_wide 8 Try.f8 rfl rfl rfl rfl rfl rfl rfl ⟨rfl, rfl, rfl, rfl, rfl⟩ rfl rfl rfl rfl rfl (by kernel_rfl) Try.func8 (by kernel_rfl)
    (of_decide_eq_true (by kernel_rfl)) (by unfold Func.isWrapper; first | (rw [if_pos (by decide +kernel)]; kernel_rfl) | (rw [if_neg (by decide +kernel)]; exact ⟨rfl, rfl⟩))
    (fun os started H enc _ => lifted os started H enc)
#print axioms over
end Go.Proofs.Ytedfjadgfkbfiaa.netCopies
namespace Go.Proofs.Ytedfjadgfkbfiaa
/-- The row, under a short name, for the claim. -/
theorem netCopies_holds : Rows.NetCopiesSaid := netCopies.over
end Go.Proofs.Ytedfjadgfkbfiaa
