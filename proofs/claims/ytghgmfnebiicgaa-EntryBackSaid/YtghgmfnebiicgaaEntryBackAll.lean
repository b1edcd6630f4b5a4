/- EntryBack, walked: of any configuration, operation and entry it answers true. -/
import Derived.Test.YtghgmfnebiicgaaEntryBackWalk
import Derived.Test.YtghgmfnebiicgaaEntryBack0
import Derived.Test.YtghgmfnebiicgaaEntryBack1
import Derived.Test.YtghgmfnebiicgaaEntryBack2
import Derived.Test.YtghgmfnebiicgaaEntryBack3
namespace Go.Proofs.Ytghgmfnebiicgaa.Entry
open Go.RowKit
theorem legal_c {n m k a b c : Int} (hk : k = 1) (h : legalB n m k a b c = true) : c = 0 ∨ c = 1 := by
  unfold legalB at h
  rw [if_pos hk] at h
  simp at h
  omega
theorem entryBack_any (c0 c1 c2 c3 c4 c5 c6 c7 c8 ob ov k a b c d : Int) (wr : Bool) (hv0 : -9223372036854775808 ≤ ov) (hv1 : ov ≤ 9223372036854775807) (hd0 : -9223372036854775808 ≤ d) (hd1 : d ≤ 9223372036854775807) (w : World) :
    Calls Try.prog 6 #[.agg #[.int .i64 c0, .int .i64 c1, .int .i64 c2, .int .i64 c3, .int .i64 c4, .int .i64 c5, .int .i64 c6, .int .i64 c7, .int .i64 c8], .agg #[.int .i64 ob, .bool wr, .int .i64 ov], .agg #[.int .i64 k, .int .i64 a, .int .i64 b, .int .i64 c, .int .i64 d]] w (RB true w) := by
  by_cases h1 : k = 1
  · have hk : (k == 1) = true := beq_iff_eq.2 h1
    have hk' : (k != 1) = false := by rw [h1]; rfl
    cases hl : legalB c0 c1 k a b c with
    | false =>
      cases wr
      · exact back_illegal_false c0 c1 c2 c3 c4 c5 c6 c7 c8 ob ov k a b c d hv0 hv1 hk hk' hl w
      · exact back_illegal_true c0 c1 c2 c3 c4 c5 c6 c7 c8 ob ov k a b c d hv0 hv1 hk hk' hl w
    | true =>
      rcases legal_c h1 hl with rfl | rfl
      · cases wr
        · exact back_legal_0 c0 c1 c2 c3 c4 c5 c6 c7 c8 ob ov k a b d hv0 hv1 hd0 hd1 hk hk' hl w
        · exact back_legal_2 c0 c1 c2 c3 c4 c5 c6 c7 c8 ob ov k a b d hv0 hv1 hd0 hd1 hk hk' hl w
      · cases wr
        · exact back_legal_1 c0 c1 c2 c3 c4 c5 c6 c7 c8 ob ov k a b d hv0 hv1 hd0 hd1 hk hk' hl w
        · exact back_legal_3 c0 c1 c2 c3 c4 c5 c6 c7 c8 ob ov k a b d hv0 hv1 hd0 hd1 hk hk' hl w
  · have hk : (k == 1) = false := beq_eq_false_iff_ne.2 h1
    have hk' : (k != 1) = true := bne_iff_ne.2 h1
    cases wr
    · exact back_other_false c0 c1 c2 c3 c4 c5 c6 c7 c8 ob ov k a b c d hv0 hv1 hk hk' w
    · exact back_other_true c0 c1 c2 c3 c4 c5 c6 c7 c8 ob ov k a b c d hv0 hv1 hk hk' w
end Go.Proofs.Ytghgmfnebiicgaa.Entry
