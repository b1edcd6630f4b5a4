/-
  No cell of these rows narrows 'for every input' (looked for: loops, veiled, ifaces, maps, wideKeys, modest, calm, conditions, laid).
  DERIVED. THE GIVEN ROWS OF THIS SEAT. 16 by the template 'for every input the law returns true; each argument reads behind the call as it read before'; 0 by the template 'total and deterministic' (their statements: YtghgmfnebiicgaaTotals.lean).
  GIVEN WITH THE SEED: the statements are not yours to turn. If you find one false, say at which input.
  Laid BY PROGRAM, IN A SANDBOX (cutbox-rows.mjs): the forced cells as the released guide's own fill.sh prints them over the translation 81996a1a74e5995e… (all of the seat's roots in one cut). By AI agents, Wed Nov 11 2026. No macro, syntax, notation, axiom, sorry.
-/
import Derived.Test.YtghgmfnebiicgaaChecked
import GoSem.Claim
import GoSem.ClaimJoined
import GoSem.ClaimMapViews
import Derived.JoinedTies
import Derived.KernelRfl
namespace Go.Proofs.Ytghgmfnebiicgaa
/- THE CELL 'sum', in the pinned program and in every row, IS THE sha256 OF THE DUMP (.gsa) THAT YtghgmfnebiicgaaProg.lean LOADS. Nothing in Lean hashes anything: it is a label: what it is worth is what the hold of that sum in a sandbox is worth. -/
noncomputable def Try.pinned : Pinned := { name := "ytghgmfnebiicgaa", sum := "81996a1a74e5995e37dcfcb3b42ff68281fadceed663fcc85bb140d1e61f6279", checked := Try.checked }
namespace Rows
def none {H : Type} : Left H := { results := [], args := [] }

/-- 'jetonlaw05.EntryLegal': WHATEVER THE INPUT: true; the input reads as it did. -/
def entryLegalSpec : ChangeSpec := { name := "entryLegal", fn := fun _ => fun
  | [d1, d2] => { results := [.lit (.bool true)], args := [d1, d2] }
  | _ => none }
def entryLegalRow : OpenClaim := { program := "ytghgmfnebiicgaa", sum := "81996a1a74e5995e37dcfcb3b42ff68281fadceed663fcc85bb140d1e61f6279", func := "jeton/jetonlaw05.EntryLegal", spec := "entryLegal", apart := false }
def EntryLegalSaid : Prop := entryLegalRow.holds Try.pinned (OpenSpec.ofChange entryLegalSpec)

/-- ITS FALSE NEIGHBOUR: 'it returns false'. Refute it at one input. -/
def entryLegalWrong : ChangeSpec := { name := "entryLegal", fn := fun _ => fun
  | [d1, d2] => { results := [.lit (.bool false)], args := [d1, d2] }
  | _ => none }
def EntryLegalWrongFalsely : Prop := entryLegalRow.holds Try.pinned (OpenSpec.ofChange entryLegalWrong)

/-- 'jetonlaw05.EntryOps': WHATEVER THE INPUT: true; the input reads as it did. -/
def entryOpsSpec : ChangeSpec := { name := "entryOps", fn := fun _ => fun
  | [d] => { results := [.lit (.bool true)], args := [d] }
  | _ => none }
def entryOpsRow : OpenClaim := { program := "ytghgmfnebiicgaa", sum := "81996a1a74e5995e37dcfcb3b42ff68281fadceed663fcc85bb140d1e61f6279", func := "jeton/jetonlaw05.EntryOps", spec := "entryOps", apart := false }
def EntryOpsSaid : Prop := entryOpsRow.holds Try.pinned (OpenSpec.ofChange entryOpsSpec)

/-- ITS FALSE NEIGHBOUR: 'it returns false'. Refute it at one input. -/
def entryOpsWrong : ChangeSpec := { name := "entryOps", fn := fun _ => fun
  | [d] => { results := [.lit (.bool false)], args := [d] }
  | _ => none }
def EntryOpsWrongFalsely : Prop := entryOpsRow.holds Try.pinned (OpenSpec.ofChange entryOpsWrong)

/-- 'jetonlaw05.EntryPrints': WHATEVER THE INPUT: true; the input reads as it did. -/
def entryPrintsSpec : ChangeSpec := { name := "entryPrints", fn := fun _ => fun
  | [d1, d2, d3] => { results := [.lit (.bool true)], args := [d1, d2, d3] }
  | _ => none }
def entryPrintsRow : OpenClaim := { program := "ytghgmfnebiicgaa", sum := "81996a1a74e5995e37dcfcb3b42ff68281fadceed663fcc85bb140d1e61f6279", func := "jeton/jetonlaw05.EntryPrints", spec := "entryPrints", apart := false }
def EntryPrintsSaid : Prop := entryPrintsRow.holds Try.pinned (OpenSpec.ofChange entryPrintsSpec)

/-- ITS FALSE NEIGHBOUR: 'it returns false'. Refute it at one input. -/
def entryPrintsWrong : ChangeSpec := { name := "entryPrints", fn := fun _ => fun
  | [d1, d2, d3] => { results := [.lit (.bool false)], args := [d1, d2, d3] }
  | _ => none }
def EntryPrintsWrongFalsely : Prop := entryPrintsRow.holds Try.pinned (OpenSpec.ofChange entryPrintsWrong)

/-- 'jetonlaw05.EntryBack': WHATEVER THE INPUT: true; the input reads as it did. -/
def entryBackSpec : ChangeSpec := { name := "entryBack", fn := fun _ => fun
  | [d1, d2, d3] => { results := [.lit (.bool true)], args := [d1, d2, d3] }
  | _ => none }
def entryBackRow : OpenClaim := { program := "ytghgmfnebiicgaa", sum := "81996a1a74e5995e37dcfcb3b42ff68281fadceed663fcc85bb140d1e61f6279", func := "jeton/jetonlaw05.EntryBack", spec := "entryBack", apart := false }
def EntryBackSaid : Prop := entryBackRow.holds Try.pinned (OpenSpec.ofChange entryBackSpec)

/-- ITS FALSE NEIGHBOUR: 'it returns false'. Refute it at one input. -/
def entryBackWrong : ChangeSpec := { name := "entryBack", fn := fun _ => fun
  | [d1, d2, d3] => { results := [.lit (.bool false)], args := [d1, d2, d3] }
  | _ => none }
def EntryBackWrongFalsely : Prop := entryBackRow.holds Try.pinned (OpenSpec.ofChange entryBackWrong)

/-- 'jetonlaw05.EntryGrows': WHATEVER THE INPUT: true; the input reads as it did. -/
def entryGrowsSpec : ChangeSpec := { name := "entryGrows", fn := fun _ => fun
  | [d1, d2, d3] => { results := [.lit (.bool true)], args := [d1, d2, d3] }
  | _ => none }
def entryGrowsRow : OpenClaim := { program := "ytghgmfnebiicgaa", sum := "81996a1a74e5995e37dcfcb3b42ff68281fadceed663fcc85bb140d1e61f6279", func := "jeton/jetonlaw05.EntryGrows", spec := "entryGrows", apart := false }
def EntryGrowsSaid : Prop := entryGrowsRow.holds Try.pinned (OpenSpec.ofChange entryGrowsSpec)

/-- ITS FALSE NEIGHBOUR: 'it returns false'. Refute it at one input. -/
def entryGrowsWrong : ChangeSpec := { name := "entryGrows", fn := fun _ => fun
  | [d1, d2, d3] => { results := [.lit (.bool false)], args := [d1, d2, d3] }
  | _ => none }
def EntryGrowsWrongFalsely : Prop := entryGrowsRow.holds Try.pinned (OpenSpec.ofChange entryGrowsWrong)

/-- 'jetonlaw07.TimerTicks': WHATEVER THE INPUT: true; the input reads as it did. -/
def timerTicksSpec : ChangeSpec := { name := "timerTicks", fn := fun _ => fun
  | [d1, d2, d3] => { results := [.lit (.bool true)], args := [d1, d2, d3] }
  | _ => none }
def timerTicksRow : OpenClaim := { program := "ytghgmfnebiicgaa", sum := "81996a1a74e5995e37dcfcb3b42ff68281fadceed663fcc85bb140d1e61f6279", func := "jeton/jetonlaw07.TimerTicks", spec := "timerTicks", apart := false }
def TimerTicksSaid : Prop := timerTicksRow.holds Try.pinned (OpenSpec.ofChange timerTicksSpec)

/-- ITS FALSE NEIGHBOUR: 'it returns false'. Refute it at one input. -/
def timerTicksWrong : ChangeSpec := { name := "timerTicks", fn := fun _ => fun
  | [d1, d2, d3] => { results := [.lit (.bool false)], args := [d1, d2, d3] }
  | _ => none }
def TimerTicksWrongFalsely : Prop := timerTicksRow.holds Try.pinned (OpenSpec.ofChange timerTicksWrong)

/-- 'jetonlaw07.TimerTotal': WHATEVER THE INPUT: true; the input reads as it did. -/
def timerTotalSpec : ChangeSpec := { name := "timerTotal", fn := fun _ => fun
  | [d1, d2] => { results := [.lit (.bool true)], args := [d1, d2] }
  | _ => none }
def timerTotalRow : OpenClaim := { program := "ytghgmfnebiicgaa", sum := "81996a1a74e5995e37dcfcb3b42ff68281fadceed663fcc85bb140d1e61f6279", func := "jeton/jetonlaw07.TimerTotal", spec := "timerTotal", apart := false }
def TimerTotalSaid : Prop := timerTotalRow.holds Try.pinned (OpenSpec.ofChange timerTotalSpec)

/-- ITS FALSE NEIGHBOUR: 'it returns false'. Refute it at one input. -/
def timerTotalWrong : ChangeSpec := { name := "timerTotal", fn := fun _ => fun
  | [d1, d2] => { results := [.lit (.bool false)], args := [d1, d2] }
  | _ => none }
def TimerTotalWrongFalsely : Prop := timerTotalRow.holds Try.pinned (OpenSpec.ofChange timerTotalWrong)

/-- 'jetonlaw07.TimerOnce': WHATEVER THE INPUT: true; the input reads as it did. -/
def timerOnceSpec : ChangeSpec := { name := "timerOnce", fn := fun _ => fun
  | [d1, d2] => { results := [.lit (.bool true)], args := [d1, d2] }
  | _ => none }
def timerOnceRow : OpenClaim := { program := "ytghgmfnebiicgaa", sum := "81996a1a74e5995e37dcfcb3b42ff68281fadceed663fcc85bb140d1e61f6279", func := "jeton/jetonlaw07.TimerOnce", spec := "timerOnce", apart := false }
def TimerOnceSaid : Prop := timerOnceRow.holds Try.pinned (OpenSpec.ofChange timerOnceSpec)

/-- ITS FALSE NEIGHBOUR: 'it returns false'. Refute it at one input. -/
def timerOnceWrong : ChangeSpec := { name := "timerOnce", fn := fun _ => fun
  | [d1, d2] => { results := [.lit (.bool false)], args := [d1, d2] }
  | _ => none }
def TimerOnceWrongFalsely : Prop := timerOnceRow.holds Try.pinned (OpenSpec.ofChange timerOnceWrong)

/-- 'jetonlaw07.TimerGrows': WHATEVER THE INPUT: true; the input reads as it did. -/
def timerGrowsSpec : ChangeSpec := { name := "timerGrows", fn := fun _ => fun
  | [d1, d2] => { results := [.lit (.bool true)], args := [d1, d2] }
  | _ => none }
def timerGrowsRow : OpenClaim := { program := "ytghgmfnebiicgaa", sum := "81996a1a74e5995e37dcfcb3b42ff68281fadceed663fcc85bb140d1e61f6279", func := "jeton/jetonlaw07.TimerGrows", spec := "timerGrows", apart := false }
def TimerGrowsSaid : Prop := timerGrowsRow.holds Try.pinned (OpenSpec.ofChange timerGrowsSpec)

/-- ITS FALSE NEIGHBOUR: 'it returns false'. Refute it at one input. -/
def timerGrowsWrong : ChangeSpec := { name := "timerGrows", fn := fun _ => fun
  | [d1, d2] => { results := [.lit (.bool false)], args := [d1, d2] }
  | _ => none }
def TimerGrowsWrongFalsely : Prop := timerGrowsRow.holds Try.pinned (OpenSpec.ofChange timerGrowsWrong)

/-- 'jetonlaw07.TimerDoubles': WHATEVER THE INPUT: true; the input reads as it did. -/
def timerDoublesSpec : ChangeSpec := { name := "timerDoubles", fn := fun _ => fun
  | [d1, d2] => { results := [.lit (.bool true)], args := [d1, d2] }
  | _ => none }
def timerDoublesRow : OpenClaim := { program := "ytghgmfnebiicgaa", sum := "81996a1a74e5995e37dcfcb3b42ff68281fadceed663fcc85bb140d1e61f6279", func := "jeton/jetonlaw07.TimerDoubles", spec := "timerDoubles", apart := false }
def TimerDoublesSaid : Prop := timerDoublesRow.holds Try.pinned (OpenSpec.ofChange timerDoublesSpec)

/-- ITS FALSE NEIGHBOUR: 'it returns false'. Refute it at one input. -/
def timerDoublesWrong : ChangeSpec := { name := "timerDoubles", fn := fun _ => fun
  | [d1, d2] => { results := [.lit (.bool false)], args := [d1, d2] }
  | _ => none }
def TimerDoublesWrongFalsely : Prop := timerDoublesRow.holds Try.pinned (OpenSpec.ofChange timerDoublesWrong)

/-- 'jetonlaw01.NumClamps': WHATEVER THE INPUT: true; the input reads as it did. -/
def numClampsSpec : ChangeSpec := { name := "numClamps", fn := fun _ => fun
  | [d1, d2, d3] => { results := [.lit (.bool true)], args := [d1, d2, d3] }
  | _ => none }
def numClampsRow : OpenClaim := { program := "ytghgmfnebiicgaa", sum := "81996a1a74e5995e37dcfcb3b42ff68281fadceed663fcc85bb140d1e61f6279", func := "jeton/jetonlaw01.NumClamps", spec := "numClamps", apart := false }
def NumClampsSaid : Prop := numClampsRow.holds Try.pinned (OpenSpec.ofChange numClampsSpec)

/-- ITS FALSE NEIGHBOUR: 'it returns false'. Refute it at one input. -/
def numClampsWrong : ChangeSpec := { name := "numClamps", fn := fun _ => fun
  | [d1, d2, d3] => { results := [.lit (.bool false)], args := [d1, d2, d3] }
  | _ => none }
def NumClampsWrongFalsely : Prop := numClampsRow.holds Try.pinned (OpenSpec.ofChange numClampsWrong)

/-- 'jetonlaw01.NumSmall': WHATEVER THE INPUT: true; the input reads as it did. -/
def numSmallSpec : ChangeSpec := { name := "numSmall", fn := fun _ => fun
  | [d1, d2, d3] => { results := [.lit (.bool true)], args := [d1, d2, d3] }
  | _ => none }
def numSmallRow : OpenClaim := { program := "ytghgmfnebiicgaa", sum := "81996a1a74e5995e37dcfcb3b42ff68281fadceed663fcc85bb140d1e61f6279", func := "jeton/jetonlaw01.NumSmall", spec := "numSmall", apart := false }
def NumSmallSaid : Prop := numSmallRow.holds Try.pinned (OpenSpec.ofChange numSmallSpec)

/-- ITS FALSE NEIGHBOUR: 'it returns false'. Refute it at one input. -/
def numSmallWrong : ChangeSpec := { name := "numSmall", fn := fun _ => fun
  | [d1, d2, d3] => { results := [.lit (.bool false)], args := [d1, d2, d3] }
  | _ => none }
def NumSmallWrongFalsely : Prop := numSmallRow.holds Try.pinned (OpenSpec.ofChange numSmallWrong)

/-- 'jetonlaw01.NumBits': WHATEVER THE INPUT: true; the input reads as it did. -/
def numBitsSpec : ChangeSpec := { name := "numBits", fn := fun _ => fun
  | [d1, d2] => { results := [.lit (.bool true)], args := [d1, d2] }
  | _ => none }
def numBitsRow : OpenClaim := { program := "ytghgmfnebiicgaa", sum := "81996a1a74e5995e37dcfcb3b42ff68281fadceed663fcc85bb140d1e61f6279", func := "jeton/jetonlaw01.NumBits", spec := "numBits", apart := false }
def NumBitsSaid : Prop := numBitsRow.holds Try.pinned (OpenSpec.ofChange numBitsSpec)

/-- ITS FALSE NEIGHBOUR: 'it returns false'. Refute it at one input. -/
def numBitsWrong : ChangeSpec := { name := "numBits", fn := fun _ => fun
  | [d1, d2] => { results := [.lit (.bool false)], args := [d1, d2] }
  | _ => none }
def NumBitsWrongFalsely : Prop := numBitsRow.holds Try.pinned (OpenSpec.ofChange numBitsWrong)

/-- 'jetonlaw01.NumFrom': WHATEVER THE INPUT: true; the input reads as it did. -/
def numFromSpec : ChangeSpec := { name := "numFrom", fn := fun _ => fun
  | [d1, d2, d3] => { results := [.lit (.bool true)], args := [d1, d2, d3] }
  | _ => none }
def numFromRow : OpenClaim := { program := "ytghgmfnebiicgaa", sum := "81996a1a74e5995e37dcfcb3b42ff68281fadceed663fcc85bb140d1e61f6279", func := "jeton/jetonlaw01.NumFrom", spec := "numFrom", apart := false }
def NumFromSaid : Prop := numFromRow.holds Try.pinned (OpenSpec.ofChange numFromSpec)

/-- ITS FALSE NEIGHBOUR: 'it returns false'. Refute it at one input. -/
def numFromWrong : ChangeSpec := { name := "numFrom", fn := fun _ => fun
  | [d1, d2, d3] => { results := [.lit (.bool false)], args := [d1, d2, d3] }
  | _ => none }
def NumFromWrongFalsely : Prop := numFromRow.holds Try.pinned (OpenSpec.ofChange numFromWrong)

/-- 'jetonlaw01.NumOnes': WHATEVER THE INPUT: true; the input reads as it did. -/
def numOnesSpec : ChangeSpec := { name := "numOnes", fn := fun _ => fun
  | [d1, d2] => { results := [.lit (.bool true)], args := [d1, d2] }
  | _ => none }
def numOnesRow : OpenClaim := { program := "ytghgmfnebiicgaa", sum := "81996a1a74e5995e37dcfcb3b42ff68281fadceed663fcc85bb140d1e61f6279", func := "jeton/jetonlaw01.NumOnes", spec := "numOnes", apart := false }
def NumOnesSaid : Prop := numOnesRow.holds Try.pinned (OpenSpec.ofChange numOnesSpec)

/-- ITS FALSE NEIGHBOUR: 'it returns false'. Refute it at one input. -/
def numOnesWrong : ChangeSpec := { name := "numOnes", fn := fun _ => fun
  | [d1, d2] => { results := [.lit (.bool false)], args := [d1, d2] }
  | _ => none }
def NumOnesWrongFalsely : Prop := numOnesRow.holds Try.pinned (OpenSpec.ofChange numOnesWrong)

/-- 'jetonlaw01.NumTwice': WHATEVER THE INPUT: true; the input reads as it did. -/
def numTwiceSpec : ChangeSpec := { name := "numTwice", fn := fun _ => fun
  | [d1, d2, d3] => { results := [.lit (.bool true)], args := [d1, d2, d3] }
  | _ => none }
def numTwiceRow : OpenClaim := { program := "ytghgmfnebiicgaa", sum := "81996a1a74e5995e37dcfcb3b42ff68281fadceed663fcc85bb140d1e61f6279", func := "jeton/jetonlaw01.NumTwice", spec := "numTwice", apart := false }
def NumTwiceSaid : Prop := numTwiceRow.holds Try.pinned (OpenSpec.ofChange numTwiceSpec)

/-- ITS FALSE NEIGHBOUR: 'it returns false'. Refute it at one input. -/
def numTwiceWrong : ChangeSpec := { name := "numTwice", fn := fun _ => fun
  | [d1, d2, d3] => { results := [.lit (.bool false)], args := [d1, d2, d3] }
  | _ => none }
def NumTwiceWrongFalsely : Prop := numTwiceRow.holds Try.pinned (OpenSpec.ofChange numTwiceWrong)

/- THE SECOND FORM. 'bulk': how many values and letters a reading holds, each counted each time it is reached (what is shared counts as often as it is met; a slice's spare places count too). A statement '..UptoSaid' is the law's where the arguments, and the package variables that the reading takes, are together of bulk at most 1048576: NARROWER than '..Said'. Prove '..Said' where nothing that the law and all that it calls make is longer than what came in: it says more and counts as full. Else prove '..UptoSaid'. A law counts once. -/
mutual
def uptoBulk {H : Type} : DataW H → Nat
  | .lit (.string bytes) => bytes.length + 1
  | .lit _ => 1
  | .nil => 1
  | .ptr d => uptoBulk d + 1
  | .slice elems spare => uptoBulkAll elems + uptoBulkAll spare + 1
  | .agg parts => uptoBulkAll parts + 1
  | .iface _ d => uptoBulk d + 1
  | .map entries => uptoBulkEntries entries + 1
  | .held _ => 1
def uptoBulkAll {H : Type} : List (DataW H) → Nat
  | [] => 0
  | d :: r => uptoBulk d + uptoBulkAll r
def uptoBulkEntries {H : Type} : List (Lit × DataW H) → Nat
  | [] => 0
  | x :: r => uptoBulkEntry x + uptoBulkEntries r
def uptoBulkEntry {H : Type} : Lit × DataW H → Nat
  | (.string bytes, d) => bytes.length + uptoBulk d + 1
  | (_, d) => uptoBulk d + 1
 end
def uptoSmall : (H : Type) → List (DataW H) → Bool := fun _ ds => decide (uptoBulkAll ds ≤ 1048576)
def OpenSpec.upto (s : _root_.Go.ChangeSpec) : _root_.Go.OpenSpec := { _root_.Go.OpenSpec.ofChange s with cond := some uptoSmall }

/-- 'jetonlaw05.EntryLegal', WHERE WHAT IT READS IS OF BULK AT MOST 1048576: true; the input reads as it did. -/
def entryLegalUptoRow : OpenClaim := { program := "ytghgmfnebiicgaa", sum := "81996a1a74e5995e37dcfcb3b42ff68281fadceed663fcc85bb140d1e61f6279", func := "jeton/jetonlaw05.EntryLegal", spec := "entryLegal", apart := false, narrowed := true }
def EntryLegalUptoSaid : Prop := entryLegalUptoRow.holds Try.pinned (OpenSpec.upto entryLegalSpec)

/-- 'jetonlaw05.EntryOps', WHERE WHAT IT READS IS OF BULK AT MOST 1048576: true; the input reads as it did. -/
def entryOpsUptoRow : OpenClaim := { program := "ytghgmfnebiicgaa", sum := "81996a1a74e5995e37dcfcb3b42ff68281fadceed663fcc85bb140d1e61f6279", func := "jeton/jetonlaw05.EntryOps", spec := "entryOps", apart := false, narrowed := true }
def EntryOpsUptoSaid : Prop := entryOpsUptoRow.holds Try.pinned (OpenSpec.upto entryOpsSpec)

/-- 'jetonlaw05.EntryPrints', WHERE WHAT IT READS IS OF BULK AT MOST 1048576: true; the input reads as it did. -/
def entryPrintsUptoRow : OpenClaim := { program := "ytghgmfnebiicgaa", sum := "81996a1a74e5995e37dcfcb3b42ff68281fadceed663fcc85bb140d1e61f6279", func := "jeton/jetonlaw05.EntryPrints", spec := "entryPrints", apart := false, narrowed := true }
def EntryPrintsUptoSaid : Prop := entryPrintsUptoRow.holds Try.pinned (OpenSpec.upto entryPrintsSpec)

/-- 'jetonlaw05.EntryBack', WHERE WHAT IT READS IS OF BULK AT MOST 1048576: true; the input reads as it did. -/
def entryBackUptoRow : OpenClaim := { program := "ytghgmfnebiicgaa", sum := "81996a1a74e5995e37dcfcb3b42ff68281fadceed663fcc85bb140d1e61f6279", func := "jeton/jetonlaw05.EntryBack", spec := "entryBack", apart := false, narrowed := true }
def EntryBackUptoSaid : Prop := entryBackUptoRow.holds Try.pinned (OpenSpec.upto entryBackSpec)

/-- 'jetonlaw05.EntryGrows', WHERE WHAT IT READS IS OF BULK AT MOST 1048576: true; the input reads as it did. -/
def entryGrowsUptoRow : OpenClaim := { program := "ytghgmfnebiicgaa", sum := "81996a1a74e5995e37dcfcb3b42ff68281fadceed663fcc85bb140d1e61f6279", func := "jeton/jetonlaw05.EntryGrows", spec := "entryGrows", apart := false, narrowed := true }
def EntryGrowsUptoSaid : Prop := entryGrowsUptoRow.holds Try.pinned (OpenSpec.upto entryGrowsSpec)

/-- 'jetonlaw07.TimerTicks', WHERE WHAT IT READS IS OF BULK AT MOST 1048576: true; the input reads as it did. -/
def timerTicksUptoRow : OpenClaim := { program := "ytghgmfnebiicgaa", sum := "81996a1a74e5995e37dcfcb3b42ff68281fadceed663fcc85bb140d1e61f6279", func := "jeton/jetonlaw07.TimerTicks", spec := "timerTicks", apart := false, narrowed := true }
def TimerTicksUptoSaid : Prop := timerTicksUptoRow.holds Try.pinned (OpenSpec.upto timerTicksSpec)

/-- 'jetonlaw07.TimerTotal', WHERE WHAT IT READS IS OF BULK AT MOST 1048576: true; the input reads as it did. -/
def timerTotalUptoRow : OpenClaim := { program := "ytghgmfnebiicgaa", sum := "81996a1a74e5995e37dcfcb3b42ff68281fadceed663fcc85bb140d1e61f6279", func := "jeton/jetonlaw07.TimerTotal", spec := "timerTotal", apart := false, narrowed := true }
def TimerTotalUptoSaid : Prop := timerTotalUptoRow.holds Try.pinned (OpenSpec.upto timerTotalSpec)

/-- 'jetonlaw07.TimerOnce', WHERE WHAT IT READS IS OF BULK AT MOST 1048576: true; the input reads as it did. -/
def timerOnceUptoRow : OpenClaim := { program := "ytghgmfnebiicgaa", sum := "81996a1a74e5995e37dcfcb3b42ff68281fadceed663fcc85bb140d1e61f6279", func := "jeton/jetonlaw07.TimerOnce", spec := "timerOnce", apart := false, narrowed := true }
def TimerOnceUptoSaid : Prop := timerOnceUptoRow.holds Try.pinned (OpenSpec.upto timerOnceSpec)

/-- 'jetonlaw07.TimerGrows', WHERE WHAT IT READS IS OF BULK AT MOST 1048576: true; the input reads as it did. -/
def timerGrowsUptoRow : OpenClaim := { program := "ytghgmfnebiicgaa", sum := "81996a1a74e5995e37dcfcb3b42ff68281fadceed663fcc85bb140d1e61f6279", func := "jeton/jetonlaw07.TimerGrows", spec := "timerGrows", apart := false, narrowed := true }
def TimerGrowsUptoSaid : Prop := timerGrowsUptoRow.holds Try.pinned (OpenSpec.upto timerGrowsSpec)

/-- 'jetonlaw07.TimerDoubles', WHERE WHAT IT READS IS OF BULK AT MOST 1048576: true; the input reads as it did. -/
def timerDoublesUptoRow : OpenClaim := { program := "ytghgmfnebiicgaa", sum := "81996a1a74e5995e37dcfcb3b42ff68281fadceed663fcc85bb140d1e61f6279", func := "jeton/jetonlaw07.TimerDoubles", spec := "timerDoubles", apart := false, narrowed := true }
def TimerDoublesUptoSaid : Prop := timerDoublesUptoRow.holds Try.pinned (OpenSpec.upto timerDoublesSpec)

/-- 'jetonlaw01.NumClamps', WHERE WHAT IT READS IS OF BULK AT MOST 1048576: true; the input reads as it did. -/
def numClampsUptoRow : OpenClaim := { program := "ytghgmfnebiicgaa", sum := "81996a1a74e5995e37dcfcb3b42ff68281fadceed663fcc85bb140d1e61f6279", func := "jeton/jetonlaw01.NumClamps", spec := "numClamps", apart := false, narrowed := true }
def NumClampsUptoSaid : Prop := numClampsUptoRow.holds Try.pinned (OpenSpec.upto numClampsSpec)

/-- 'jetonlaw01.NumSmall', WHERE WHAT IT READS IS OF BULK AT MOST 1048576: true; the input reads as it did. -/
def numSmallUptoRow : OpenClaim := { program := "ytghgmfnebiicgaa", sum := "81996a1a74e5995e37dcfcb3b42ff68281fadceed663fcc85bb140d1e61f6279", func := "jeton/jetonlaw01.NumSmall", spec := "numSmall", apart := false, narrowed := true }
def NumSmallUptoSaid : Prop := numSmallUptoRow.holds Try.pinned (OpenSpec.upto numSmallSpec)

/-- 'jetonlaw01.NumBits', WHERE WHAT IT READS IS OF BULK AT MOST 1048576: true; the input reads as it did. -/
def numBitsUptoRow : OpenClaim := { program := "ytghgmfnebiicgaa", sum := "81996a1a74e5995e37dcfcb3b42ff68281fadceed663fcc85bb140d1e61f6279", func := "jeton/jetonlaw01.NumBits", spec := "numBits", apart := false, narrowed := true }
def NumBitsUptoSaid : Prop := numBitsUptoRow.holds Try.pinned (OpenSpec.upto numBitsSpec)

/-- 'jetonlaw01.NumFrom', WHERE WHAT IT READS IS OF BULK AT MOST 1048576: true; the input reads as it did. -/
def numFromUptoRow : OpenClaim := { program := "ytghgmfnebiicgaa", sum := "81996a1a74e5995e37dcfcb3b42ff68281fadceed663fcc85bb140d1e61f6279", func := "jeton/jetonlaw01.NumFrom", spec := "numFrom", apart := false, narrowed := true }
def NumFromUptoSaid : Prop := numFromUptoRow.holds Try.pinned (OpenSpec.upto numFromSpec)

/-- 'jetonlaw01.NumOnes', WHERE WHAT IT READS IS OF BULK AT MOST 1048576: true; the input reads as it did. -/
def numOnesUptoRow : OpenClaim := { program := "ytghgmfnebiicgaa", sum := "81996a1a74e5995e37dcfcb3b42ff68281fadceed663fcc85bb140d1e61f6279", func := "jeton/jetonlaw01.NumOnes", spec := "numOnes", apart := false, narrowed := true }
def NumOnesUptoSaid : Prop := numOnesUptoRow.holds Try.pinned (OpenSpec.upto numOnesSpec)

/-- 'jetonlaw01.NumTwice', WHERE WHAT IT READS IS OF BULK AT MOST 1048576: true; the input reads as it did. -/
def numTwiceUptoRow : OpenClaim := { program := "ytghgmfnebiicgaa", sum := "81996a1a74e5995e37dcfcb3b42ff68281fadceed663fcc85bb140d1e61f6279", func := "jeton/jetonlaw01.NumTwice", spec := "numTwice", apart := false, narrowed := true }
def NumTwiceUptoSaid : Prop := numTwiceUptoRow.holds Try.pinned (OpenSpec.upto numTwiceSpec)

end Rows
end Go.Proofs.Ytghgmfnebiicgaa
