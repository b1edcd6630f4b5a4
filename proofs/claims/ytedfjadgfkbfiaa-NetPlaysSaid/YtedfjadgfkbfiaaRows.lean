/-
  No cell of these rows narrows 'for every input' (looked for: loops, veiled, ifaces, maps, wideKeys, modest, calm, conditions, laid).
  DERIVED. THE GIVEN ROWS OF THIS SEAT. 11 by the template 'for every input the law returns true; each argument reads behind the call as it read before'; 0 by the template 'total and deterministic' (their statements: YtedfjadgfkbfiaaTotals.lean).
  GIVEN WITH THE SEED: the statements are not yours to turn. If you find one false, say at which input.
  Laid BY PROGRAM, IN A SANDBOX (cutbox-rows.mjs): the forced cells as the released guide's own fill.sh prints them over the translation f97c5559ce9fe0dc… (all of the seat's roots in one cut). By AI agents, Wed Nov 11 2026. No macro, syntax, notation, axiom, sorry.
-/
import Derived.Test.YtedfjadgfkbfiaaChecked
import GoSem.Claim
import GoSem.ClaimJoined
import GoSem.ClaimMapViews
import Derived.JoinedTies
import Derived.KernelRfl
namespace Go.Proofs.Ytedfjadgfkbfiaa
/- THE CELL 'sum', in the pinned program and in every row, IS THE sha256 OF THE DUMP (.gsa) THAT YtedfjadgfkbfiaaProg.lean LOADS. Nothing in Lean hashes anything: it is a label: what it is worth is what the hold of that sum in a sandbox is worth. -/
noncomputable def Try.pinned : Pinned := { name := "ytedfjadgfkbfiaa", sum := "f97c5559ce9fe0dc6b70b175bfe97d426d3f3fb8498e70857efc691d8c121519", checked := Try.checked }
namespace Rows
def none {H : Type} : Left H := { results := [], args := [] }

/-- 'jetonlaw06.NetRefuses': WHATEVER THE INPUT: true; the input reads as it did. -/
def netRefusesSpec : ChangeSpec := { name := "netRefuses", fn := fun _ => fun
  | [d1, d2] => { results := [.lit (.bool true)], args := [d1, d2] }
  | _ => none }
def netRefusesRow : OpenClaim := { program := "ytedfjadgfkbfiaa", sum := "f97c5559ce9fe0dc6b70b175bfe97d426d3f3fb8498e70857efc691d8c121519", func := "jeton/jetonlaw06.NetRefuses", spec := "netRefuses", apart := false }
def NetRefusesSaid : Prop := netRefusesRow.holds Try.pinned (OpenSpec.ofChange netRefusesSpec)

/-- ITS FALSE NEIGHBOUR: 'it returns false'. Refute it at one input. -/
def netRefusesWrong : ChangeSpec := { name := "netRefuses", fn := fun _ => fun
  | [d1, d2] => { results := [.lit (.bool false)], args := [d1, d2] }
  | _ => none }
def NetRefusesWrongFalsely : Prop := netRefusesRow.holds Try.pinned (OpenSpec.ofChange netRefusesWrong)

/-- 'jetonlaw06.NetDrops': WHATEVER THE INPUT: true; the input reads as it did. -/
def netDropsSpec : ChangeSpec := { name := "netDrops", fn := fun _ => fun
  | [d1, d2] => { results := [.lit (.bool true)], args := [d1, d2] }
  | _ => none }
def netDropsRow : OpenClaim := { program := "ytedfjadgfkbfiaa", sum := "f97c5559ce9fe0dc6b70b175bfe97d426d3f3fb8498e70857efc691d8c121519", func := "jeton/jetonlaw06.NetDrops", spec := "netDrops", apart := false }
def NetDropsSaid : Prop := netDropsRow.holds Try.pinned (OpenSpec.ofChange netDropsSpec)

/-- ITS FALSE NEIGHBOUR: 'it returns false'. Refute it at one input. -/
def netDropsWrong : ChangeSpec := { name := "netDrops", fn := fun _ => fun
  | [d1, d2] => { results := [.lit (.bool false)], args := [d1, d2] }
  | _ => none }
def NetDropsWrongFalsely : Prop := netDropsRow.holds Try.pinned (OpenSpec.ofChange netDropsWrong)

/-- 'jetonlaw06.NetOrder': WHATEVER THE INPUT: true; the input reads as it did. -/
def netOrderSpec : ChangeSpec := { name := "netOrder", fn := fun _ => fun
  | [d] => { results := [.lit (.bool true)], args := [d] }
  | _ => none }
def netOrderRow : OpenClaim := { program := "ytedfjadgfkbfiaa", sum := "f97c5559ce9fe0dc6b70b175bfe97d426d3f3fb8498e70857efc691d8c121519", func := "jeton/jetonlaw06.NetOrder", spec := "netOrder", apart := false }
def NetOrderSaid : Prop := netOrderRow.holds Try.pinned (OpenSpec.ofChange netOrderSpec)

/-- ITS FALSE NEIGHBOUR: 'it returns false'. Refute it at one input. -/
def netOrderWrong : ChangeSpec := { name := "netOrder", fn := fun _ => fun
  | [d] => { results := [.lit (.bool false)], args := [d] }
  | _ => none }
def NetOrderWrongFalsely : Prop := netOrderRow.holds Try.pinned (OpenSpec.ofChange netOrderWrong)

/-- 'jetonlaw06.NetSums': WHATEVER THE INPUT: true; the input reads as it did. -/
def netSumsSpec : ChangeSpec := { name := "netSums", fn := fun _ => fun
  | [d1, d2] => { results := [.lit (.bool true)], args := [d1, d2] }
  | _ => none }
def netSumsRow : OpenClaim := { program := "ytedfjadgfkbfiaa", sum := "f97c5559ce9fe0dc6b70b175bfe97d426d3f3fb8498e70857efc691d8c121519", func := "jeton/jetonlaw06.NetSums", spec := "netSums", apart := false }
def NetSumsSaid : Prop := netSumsRow.holds Try.pinned (OpenSpec.ofChange netSumsSpec)

/-- ITS FALSE NEIGHBOUR: 'it returns false'. Refute it at one input. -/
def netSumsWrong : ChangeSpec := { name := "netSums", fn := fun _ => fun
  | [d1, d2] => { results := [.lit (.bool false)], args := [d1, d2] }
  | _ => none }
def NetSumsWrongFalsely : Prop := netSumsRow.holds Try.pinned (OpenSpec.ofChange netSumsWrong)

/-- 'jetonlaw06.NetPlays': WHATEVER THE INPUT: true; the input reads as it did. -/
def netPlaysSpec : ChangeSpec := { name := "netPlays", fn := fun _ => fun
  | [d1, d2] => { results := [.lit (.bool true)], args := [d1, d2] }
  | _ => none }
def netPlaysRow : OpenClaim := { program := "ytedfjadgfkbfiaa", sum := "f97c5559ce9fe0dc6b70b175bfe97d426d3f3fb8498e70857efc691d8c121519", func := "jeton/jetonlaw06.NetPlays", spec := "netPlays", apart := false }
def NetPlaysSaid : Prop := netPlaysRow.holds Try.pinned (OpenSpec.ofChange netPlaysSpec)

/-- ITS FALSE NEIGHBOUR: 'it returns false'. Refute it at one input. -/
def netPlaysWrong : ChangeSpec := { name := "netPlays", fn := fun _ => fun
  | [d1, d2] => { results := [.lit (.bool false)], args := [d1, d2] }
  | _ => none }
def NetPlaysWrongFalsely : Prop := netPlaysRow.holds Try.pinned (OpenSpec.ofChange netPlaysWrong)

/-- 'jetonlaw06.NetCopies': WHATEVER THE INPUT: true; the input reads as it did. -/
def netCopiesSpec : ChangeSpec := { name := "netCopies", fn := fun _ => fun
  | [d1, d2, d3] => { results := [.lit (.bool true)], args := [d1, d2, d3] }
  | _ => none }
def netCopiesRow : OpenClaim := { program := "ytedfjadgfkbfiaa", sum := "f97c5559ce9fe0dc6b70b175bfe97d426d3f3fb8498e70857efc691d8c121519", func := "jeton/jetonlaw06.NetCopies", spec := "netCopies", apart := false }
def NetCopiesSaid : Prop := netCopiesRow.holds Try.pinned (OpenSpec.ofChange netCopiesSpec)

/-- ITS FALSE NEIGHBOUR: 'it returns false'. Refute it at one input. -/
def netCopiesWrong : ChangeSpec := { name := "netCopies", fn := fun _ => fun
  | [d1, d2, d3] => { results := [.lit (.bool false)], args := [d1, d2, d3] }
  | _ => none }
def NetCopiesWrongFalsely : Prop := netCopiesRow.holds Try.pinned (OpenSpec.ofChange netCopiesWrong)

/-- 'jetonlaw14.ProcEscalates': WHATEVER THE INPUT: true; the input reads as it did. -/
def procEscalatesSpec : ChangeSpec := { name := "procEscalates", fn := fun _ => fun
  | [d1, d2, d3] => { results := [.lit (.bool true)], args := [d1, d2, d3] }
  | _ => none }
def procEscalatesRow : OpenClaim := { program := "ytedfjadgfkbfiaa", sum := "f97c5559ce9fe0dc6b70b175bfe97d426d3f3fb8498e70857efc691d8c121519", func := "jeton/jetonlaw14.ProcEscalates", spec := "procEscalates", apart := false }
def ProcEscalatesSaid : Prop := procEscalatesRow.holds Try.pinned (OpenSpec.ofChange procEscalatesSpec)

/-- ITS FALSE NEIGHBOUR: 'it returns false'. Refute it at one input. -/
def procEscalatesWrong : ChangeSpec := { name := "procEscalates", fn := fun _ => fun
  | [d1, d2, d3] => { results := [.lit (.bool false)], args := [d1, d2, d3] }
  | _ => none }
def ProcEscalatesWrongFalsely : Prop := procEscalatesRow.holds Try.pinned (OpenSpec.ofChange procEscalatesWrong)

/-- 'jetonlaw14.ProcIdle': WHATEVER THE INPUT: true; the input reads as it did. -/
def procIdleSpec : ChangeSpec := { name := "procIdle", fn := fun _ => fun
  | [d1, d2, d3] => { results := [.lit (.bool true)], args := [d1, d2, d3] }
  | _ => none }
def procIdleRow : OpenClaim := { program := "ytedfjadgfkbfiaa", sum := "f97c5559ce9fe0dc6b70b175bfe97d426d3f3fb8498e70857efc691d8c121519", func := "jeton/jetonlaw14.ProcIdle", spec := "procIdle", apart := false }
def ProcIdleSaid : Prop := procIdleRow.holds Try.pinned (OpenSpec.ofChange procIdleSpec)

/-- ITS FALSE NEIGHBOUR: 'it returns false'. Refute it at one input. -/
def procIdleWrong : ChangeSpec := { name := "procIdle", fn := fun _ => fun
  | [d1, d2, d3] => { results := [.lit (.bool false)], args := [d1, d2, d3] }
  | _ => none }
def ProcIdleWrongFalsely : Prop := procIdleRow.holds Try.pinned (OpenSpec.ofChange procIdleWrong)

/-- 'jetonlaw14.ProcOne': WHATEVER THE INPUT: true; the input reads as it did. -/
def procOneSpec : ChangeSpec := { name := "procOne", fn := fun _ => fun
  | [d1, d2] => { results := [.lit (.bool true)], args := [d1, d2] }
  | _ => none }
def procOneRow : OpenClaim := { program := "ytedfjadgfkbfiaa", sum := "f97c5559ce9fe0dc6b70b175bfe97d426d3f3fb8498e70857efc691d8c121519", func := "jeton/jetonlaw14.ProcOne", spec := "procOne", apart := false }
def ProcOneSaid : Prop := procOneRow.holds Try.pinned (OpenSpec.ofChange procOneSpec)

/-- ITS FALSE NEIGHBOUR: 'it returns false'. Refute it at one input. -/
def procOneWrong : ChangeSpec := { name := "procOne", fn := fun _ => fun
  | [d1, d2] => { results := [.lit (.bool false)], args := [d1, d2] }
  | _ => none }
def ProcOneWrongFalsely : Prop := procOneRow.holds Try.pinned (OpenSpec.ofChange procOneWrong)

/-- 'jetonlaw14.ProcCopies': WHATEVER THE INPUT: true; the input reads as it did. -/
def procCopiesSpec : ChangeSpec := { name := "procCopies", fn := fun _ => fun
  | [d1, d2, d3] => { results := [.lit (.bool true)], args := [d1, d2, d3] }
  | _ => none }
def procCopiesRow : OpenClaim := { program := "ytedfjadgfkbfiaa", sum := "f97c5559ce9fe0dc6b70b175bfe97d426d3f3fb8498e70857efc691d8c121519", func := "jeton/jetonlaw14.ProcCopies", spec := "procCopies", apart := false }
def ProcCopiesSaid : Prop := procCopiesRow.holds Try.pinned (OpenSpec.ofChange procCopiesSpec)

/-- ITS FALSE NEIGHBOUR: 'it returns false'. Refute it at one input. -/
def procCopiesWrong : ChangeSpec := { name := "procCopies", fn := fun _ => fun
  | [d1, d2, d3] => { results := [.lit (.bool false)], args := [d1, d2, d3] }
  | _ => none }
def ProcCopiesWrongFalsely : Prop := procCopiesRow.holds Try.pinned (OpenSpec.ofChange procCopiesWrong)

/-- 'jetonlaw14.ProcPlays': WHATEVER THE INPUT: true; the input reads as it did. -/
def procPlaysSpec : ChangeSpec := { name := "procPlays", fn := fun _ => fun
  | [d1, d2, d3] => { results := [.lit (.bool true)], args := [d1, d2, d3] }
  | _ => none }
def procPlaysRow : OpenClaim := { program := "ytedfjadgfkbfiaa", sum := "f97c5559ce9fe0dc6b70b175bfe97d426d3f3fb8498e70857efc691d8c121519", func := "jeton/jetonlaw14.ProcPlays", spec := "procPlays", apart := false }
def ProcPlaysSaid : Prop := procPlaysRow.holds Try.pinned (OpenSpec.ofChange procPlaysSpec)

/-- ITS FALSE NEIGHBOUR: 'it returns false'. Refute it at one input. -/
def procPlaysWrong : ChangeSpec := { name := "procPlays", fn := fun _ => fun
  | [d1, d2, d3] => { results := [.lit (.bool false)], args := [d1, d2, d3] }
  | _ => none }
def ProcPlaysWrongFalsely : Prop := procPlaysRow.holds Try.pinned (OpenSpec.ofChange procPlaysWrong)

/- THE SECOND FORM. 'bulk': how many values and letters a reading holds, each counted each time it is reached (what is shared counts as often as it is met; a slice's spare places count too). A statement '..UptoSaid' is the law's where the arguments, and the package variables that the reading takes, are together of bulk at most 1048576: NARROWER than '..Said'. Prove '..Said' where nothing that the law and all that it calls make is longer than what came in: it says more and counts as full. Else prove '..UptoSaid'. A law counts once. -/
mutual
def uptoBulk {H : Type} : DataW H → Nat
  | .lit (.string bytes) => bytes.length + 1
  | .lit _ => 1
  | .nil => 1
  | .ptr d => uptoBulk d + 1
  | .slice elems spare => uptoBulkAll elems + uptoBulkAll spare + 1
  | .agg parts => uptoBulkAll parts + 1
  | .iface _ d => uptoBulk d + 1
  | .map entries => uptoBulkEntries entries + 1
  | .held _ => 1
def uptoBulkAll {H : Type} : List (DataW H) → Nat
  | [] => 0
  | d :: r => uptoBulk d + uptoBulkAll r
def uptoBulkEntries {H : Type} : List (Lit × DataW H) → Nat
  | [] => 0
  | x :: r => uptoBulkEntry x + uptoBulkEntries r
def uptoBulkEntry {H : Type} : Lit × DataW H → Nat
  | (.string bytes, d) => bytes.length + uptoBulk d + 1
  | (_, d) => uptoBulk d + 1
 end
def uptoSmall : (H : Type) → List (DataW H) → Bool := fun _ ds => decide (uptoBulkAll ds ≤ 1048576)
def OpenSpec.upto (s : _root_.Go.ChangeSpec) : _root_.Go.OpenSpec := { _root_.Go.OpenSpec.ofChange s with cond := some uptoSmall }

/-- 'jetonlaw06.NetRefuses', WHERE WHAT IT READS IS OF BULK AT MOST 1048576: true; the input reads as it did. -/
def netRefusesUptoRow : OpenClaim := { program := "ytedfjadgfkbfiaa", sum := "f97c5559ce9fe0dc6b70b175bfe97d426d3f3fb8498e70857efc691d8c121519", func := "jeton/jetonlaw06.NetRefuses", spec := "netRefuses", apart := false, narrowed := true }
def NetRefusesUptoSaid : Prop := netRefusesUptoRow.holds Try.pinned (OpenSpec.upto netRefusesSpec)

/-- 'jetonlaw06.NetDrops', WHERE WHAT IT READS IS OF BULK AT MOST 1048576: true; the input reads as it did. -/
def netDropsUptoRow : OpenClaim := { program := "ytedfjadgfkbfiaa", sum := "f97c5559ce9fe0dc6b70b175bfe97d426d3f3fb8498e70857efc691d8c121519", func := "jeton/jetonlaw06.NetDrops", spec := "netDrops", apart := false, narrowed := true }
def NetDropsUptoSaid : Prop := netDropsUptoRow.holds Try.pinned (OpenSpec.upto netDropsSpec)

/-- 'jetonlaw06.NetOrder', WHERE WHAT IT READS IS OF BULK AT MOST 1048576: true; the input reads as it did. -/
def netOrderUptoRow : OpenClaim := { program := "ytedfjadgfkbfiaa", sum := "f97c5559ce9fe0dc6b70b175bfe97d426d3f3fb8498e70857efc691d8c121519", func := "jeton/jetonlaw06.NetOrder", spec := "netOrder", apart := false, narrowed := true }
def NetOrderUptoSaid : Prop := netOrderUptoRow.holds Try.pinned (OpenSpec.upto netOrderSpec)

/-- 'jetonlaw06.NetSums', WHERE WHAT IT READS IS OF BULK AT MOST 1048576: true; the input reads as it did. -/
def netSumsUptoRow : OpenClaim := { program := "ytedfjadgfkbfiaa", sum := "f97c5559ce9fe0dc6b70b175bfe97d426d3f3fb8498e70857efc691d8c121519", func := "jeton/jetonlaw06.NetSums", spec := "netSums", apart := false, narrowed := true }
def NetSumsUptoSaid : Prop := netSumsUptoRow.holds Try.pinned (OpenSpec.upto netSumsSpec)

/-- 'jetonlaw06.NetPlays', WHERE WHAT IT READS IS OF BULK AT MOST 1048576: true; the input reads as it did. -/
def netPlaysUptoRow : OpenClaim := { program := "ytedfjadgfkbfiaa", sum := "f97c5559ce9fe0dc6b70b175bfe97d426d3f3fb8498e70857efc691d8c121519", func := "jeton/jetonlaw06.NetPlays", spec := "netPlays", apart := false, narrowed := true }
def NetPlaysUptoSaid : Prop := netPlaysUptoRow.holds Try.pinned (OpenSpec.upto netPlaysSpec)

/-- 'jetonlaw06.NetCopies', WHERE WHAT IT READS IS OF BULK AT MOST 1048576: true; the input reads as it did. -/
def netCopiesUptoRow : OpenClaim := { program := "ytedfjadgfkbfiaa", sum := "f97c5559ce9fe0dc6b70b175bfe97d426d3f3fb8498e70857efc691d8c121519", func := "jeton/jetonlaw06.NetCopies", spec := "netCopies", apart := false, narrowed := true }
def NetCopiesUptoSaid : Prop := netCopiesUptoRow.holds Try.pinned (OpenSpec.upto netCopiesSpec)

/-- 'jetonlaw14.ProcEscalates', WHERE WHAT IT READS IS OF BULK AT MOST 1048576: true; the input reads as it did. -/
def procEscalatesUptoRow : OpenClaim := { program := "ytedfjadgfkbfiaa", sum := "f97c5559ce9fe0dc6b70b175bfe97d426d3f3fb8498e70857efc691d8c121519", func := "jeton/jetonlaw14.ProcEscalates", spec := "procEscalates", apart := false, narrowed := true }
def ProcEscalatesUptoSaid : Prop := procEscalatesUptoRow.holds Try.pinned (OpenSpec.upto procEscalatesSpec)

/-- 'jetonlaw14.ProcIdle', WHERE WHAT IT READS IS OF BULK AT MOST 1048576: true; the input reads as it did. -/
def procIdleUptoRow : OpenClaim := { program := "ytedfjadgfkbfiaa", sum := "f97c5559ce9fe0dc6b70b175bfe97d426d3f3fb8498e70857efc691d8c121519", func := "jeton/jetonlaw14.ProcIdle", spec := "procIdle", apart := false, narrowed := true }
def ProcIdleUptoSaid : Prop := procIdleUptoRow.holds Try.pinned (OpenSpec.upto procIdleSpec)

/-- 'jetonlaw14.ProcOne', WHERE WHAT IT READS IS OF BULK AT MOST 1048576: true; the input reads as it did. -/
def procOneUptoRow : OpenClaim := { program := "ytedfjadgfkbfiaa", sum := "f97c5559ce9fe0dc6b70b175bfe97d426d3f3fb8498e70857efc691d8c121519", func := "jeton/jetonlaw14.ProcOne", spec := "procOne", apart := false, narrowed := true }
def ProcOneUptoSaid : Prop := procOneUptoRow.holds Try.pinned (OpenSpec.upto procOneSpec)

/-- 'jetonlaw14.ProcCopies', WHERE WHAT IT READS IS OF BULK AT MOST 1048576: true; the input reads as it did. -/
def procCopiesUptoRow : OpenClaim := { program := "ytedfjadgfkbfiaa", sum := "f97c5559ce9fe0dc6b70b175bfe97d426d3f3fb8498e70857efc691d8c121519", func := "jeton/jetonlaw14.ProcCopies", spec := "procCopies", apart := false, narrowed := true }
def ProcCopiesUptoSaid : Prop := procCopiesUptoRow.holds Try.pinned (OpenSpec.upto procCopiesSpec)

/-- 'jetonlaw14.ProcPlays', WHERE WHAT IT READS IS OF BULK AT MOST 1048576: true; the input reads as it did. -/
def procPlaysUptoRow : OpenClaim := { program := "ytedfjadgfkbfiaa", sum := "f97c5559ce9fe0dc6b70b175bfe97d426d3f3fb8498e70857efc691d8c121519", func := "jeton/jetonlaw14.ProcPlays", spec := "procPlays", apart := false, narrowed := true }
def ProcPlaysUptoSaid : Prop := procPlaysUptoRow.holds Try.pinned (OpenSpec.upto procPlaysSpec)

end Rows
end Go.Proofs.Ytedfjadgfkbfiaa
