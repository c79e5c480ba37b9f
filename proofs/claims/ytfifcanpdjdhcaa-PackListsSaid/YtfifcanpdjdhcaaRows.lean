/-
  No cell of these rows narrows 'for every input' (looked for: loops, veiled, ifaces, maps, wideKeys, modest, calm, conditions, laid).
  DERIVED. THE GIVEN ROWS OF THIS SEAT. 7 by the template 'for every input the law returns true; each argument reads behind the call as it read before'; 0 by the template 'total and deterministic' (their statements: YtfifcanpdjdhcaaTotals.lean).
  GIVEN WITH THE SEED: the statements are not yours to turn. If you find one false, say at which input.
  Laid BY PROGRAM, IN A SANDBOX (cutbox-rows.mjs): the forced cells as the released guide's own fill.sh prints them over the translation 02663ca29f4b73be… (all of the seat's roots in one cut). By AI agents, Wed Nov 11 2026. No macro, syntax, notation, axiom, sorry.
-/
import Derived.Test.YtfifcanpdjdhcaaChecked
import GoSem.Claim
import GoSem.ClaimJoined
import GoSem.ClaimMapViews
import Derived.JoinedTies
import Derived.KernelRfl
namespace Go.Proofs.Ytfifcanpdjdhcaa
/- THE CELL 'sum', in the pinned program and in every row, IS THE sha256 OF THE DUMP (.gsa) THAT YtfifcanpdjdhcaaProg.lean LOADS. Nothing in Lean hashes anything: it is a label: what it is worth is what the hold of that sum in a sandbox is worth. -/
noncomputable def Try.pinned : Pinned := { name := "ytfifcanpdjdhcaa", sum := "02663ca29f4b73be83a0e217238935f69fd8d064ce66c3d9b2b6844ac697b367", checked := Try.checked }
namespace Rows
def none {H : Type} : Left H := { results := [], args := [] }

/-- 'odysseylaw03.PackNumbers': WHATEVER THE INPUT: true; the input reads as it did. -/
def packNumbersSpec : ChangeSpec := { name := "packNumbers", fn := fun _ => fun
  | [d] => { results := [.lit (.bool true)], args := [d] }
  | _ => none }
def packNumbersRow : OpenClaim := { program := "ytfifcanpdjdhcaa", sum := "02663ca29f4b73be83a0e217238935f69fd8d064ce66c3d9b2b6844ac697b367", func := "odyssey/odysseylaw03.PackNumbers", spec := "packNumbers", apart := false }
def PackNumbersSaid : Prop := packNumbersRow.holds Try.pinned (OpenSpec.ofChange packNumbersSpec)

/-- ITS FALSE NEIGHBOUR: 'it returns false'. Refute it at one input. -/
def packNumbersWrong : ChangeSpec := { name := "packNumbers", fn := fun _ => fun
  | [d] => { results := [.lit (.bool false)], args := [d] }
  | _ => none }
def PackNumbersWrongFalsely : Prop := packNumbersRow.holds Try.pinned (OpenSpec.ofChange packNumbersWrong)

/-- 'odysseylaw03.PackPrefix': WHATEVER THE INPUT: true; the input reads as it did. -/
def packPrefixSpec : ChangeSpec := { name := "packPrefix", fn := fun _ => fun
  | [d1, d2, d3] => { results := [.lit (.bool true)], args := [d1, d2, d3] }
  | _ => none }
def packPrefixRow : OpenClaim := { program := "ytfifcanpdjdhcaa", sum := "02663ca29f4b73be83a0e217238935f69fd8d064ce66c3d9b2b6844ac697b367", func := "odyssey/odysseylaw03.PackPrefix", spec := "packPrefix", apart := false }
def PackPrefixSaid : Prop := packPrefixRow.holds Try.pinned (OpenSpec.ofChange packPrefixSpec)

/-- ITS FALSE NEIGHBOUR: 'it returns false'. Refute it at one input. -/
def packPrefixWrong : ChangeSpec := { name := "packPrefix", fn := fun _ => fun
  | [d1, d2, d3] => { results := [.lit (.bool false)], args := [d1, d2, d3] }
  | _ => none }
def PackPrefixWrongFalsely : Prop := packPrefixRow.holds Try.pinned (OpenSpec.ofChange packPrefixWrong)

/-- 'odysseylaw03.PackTakes': WHATEVER THE INPUT: true; the input reads as it did. -/
def packTakesSpec : ChangeSpec := { name := "packTakes", fn := fun _ => fun
  | [d1, d2] => { results := [.lit (.bool true)], args := [d1, d2] }
  | _ => none }
def packTakesRow : OpenClaim := { program := "ytfifcanpdjdhcaa", sum := "02663ca29f4b73be83a0e217238935f69fd8d064ce66c3d9b2b6844ac697b367", func := "odyssey/odysseylaw03.PackTakes", spec := "packTakes", apart := false }
def PackTakesSaid : Prop := packTakesRow.holds Try.pinned (OpenSpec.ofChange packTakesSpec)

/-- ITS FALSE NEIGHBOUR: 'it returns false'. Refute it at one input. -/
def packTakesWrong : ChangeSpec := { name := "packTakes", fn := fun _ => fun
  | [d1, d2] => { results := [.lit (.bool false)], args := [d1, d2] }
  | _ => none }
def PackTakesWrongFalsely : Prop := packTakesRow.holds Try.pinned (OpenSpec.ofChange packTakesWrong)

/-- 'odysseylaw03.PackTexts': WHATEVER THE INPUT: true; the input reads as it did. -/
def packTextsSpec : ChangeSpec := { name := "packTexts", fn := fun _ => fun
  | [d] => { results := [.lit (.bool true)], args := [d] }
  | _ => none }
def packTextsRow : OpenClaim := { program := "ytfifcanpdjdhcaa", sum := "02663ca29f4b73be83a0e217238935f69fd8d064ce66c3d9b2b6844ac697b367", func := "odyssey/odysseylaw03.PackTexts", spec := "packTexts", inPlace := ["internal/abi.NoEscape", "internal/bytealg.MakeNoZero"], apart := false }
def PackTextsSaid : Prop := packTextsRow.holds Try.pinned (OpenSpec.ofChange packTextsSpec)

/-- ITS FALSE NEIGHBOUR: 'it returns false'. Refute it at one input. -/
def packTextsWrong : ChangeSpec := { name := "packTexts", fn := fun _ => fun
  | [d] => { results := [.lit (.bool false)], args := [d] }
  | _ => none }
def PackTextsWrongFalsely : Prop := packTextsRow.holds Try.pinned (OpenSpec.ofChange packTextsWrong)

/-- 'odysseylaw03.PackLists': WHATEVER THE INPUT: true; the input reads as it did. -/
def packListsSpec : ChangeSpec := { name := "packLists", fn := fun _ => fun
  | [d] => { results := [.lit (.bool true)], args := [d] }
  | _ => none }
def packListsRow : OpenClaim := { program := "ytfifcanpdjdhcaa", sum := "02663ca29f4b73be83a0e217238935f69fd8d064ce66c3d9b2b6844ac697b367", func := "odyssey/odysseylaw03.PackLists", spec := "packLists", inPlace := ["internal/abi.NoEscape", "internal/bytealg.MakeNoZero"], apart := false }
def PackListsSaid : Prop := packListsRow.holds Try.pinned (OpenSpec.ofChange packListsSpec)

/-- ITS FALSE NEIGHBOUR: 'it returns false'. Refute it at one input. -/
def packListsWrong : ChangeSpec := { name := "packLists", fn := fun _ => fun
  | [d] => { results := [.lit (.bool false)], args := [d] }
  | _ => none }
def PackListsWrongFalsely : Prop := packListsRow.holds Try.pinned (OpenSpec.ofChange packListsWrong)

/-- 'odysseylaw03.PackBack': WHATEVER THE INPUT: true; the input reads as it did. -/
def packBackSpec : ChangeSpec := { name := "packBack", fn := fun _ => fun
  | [d1, d2, d3] => { results := [.lit (.bool true)], args := [d1, d2, d3] }
  | _ => none }
def packBackRow : OpenClaim := { program := "ytfifcanpdjdhcaa", sum := "02663ca29f4b73be83a0e217238935f69fd8d064ce66c3d9b2b6844ac697b367", func := "odyssey/odysseylaw03.PackBack", spec := "packBack", inPlace := ["internal/abi.NoEscape", "internal/bytealg.MakeNoZero"], apart := false }
def PackBackSaid : Prop := packBackRow.holds Try.pinned (OpenSpec.ofChange packBackSpec)

/-- ITS FALSE NEIGHBOUR: 'it returns false'. Refute it at one input. -/
def packBackWrong : ChangeSpec := { name := "packBack", fn := fun _ => fun
  | [d1, d2, d3] => { results := [.lit (.bool false)], args := [d1, d2, d3] }
  | _ => none }
def PackBackWrongFalsely : Prop := packBackRow.holds Try.pinned (OpenSpec.ofChange packBackWrong)

/-- 'odysseylaw03.PackOneForm': WHATEVER THE INPUT: true; the input reads as it did. -/
def packOneFormSpec : ChangeSpec := { name := "packOneForm", fn := fun _ => fun
  | [d1, d2] => { results := [.lit (.bool true)], args := [d1, d2] }
  | _ => none }
def packOneFormRow : OpenClaim := { program := "ytfifcanpdjdhcaa", sum := "02663ca29f4b73be83a0e217238935f69fd8d064ce66c3d9b2b6844ac697b367", func := "odyssey/odysseylaw03.PackOneForm", spec := "packOneForm", inPlace := ["internal/abi.NoEscape", "internal/bytealg.MakeNoZero"], apart := false }
def PackOneFormSaid : Prop := packOneFormRow.holds Try.pinned (OpenSpec.ofChange packOneFormSpec)

/-- ITS FALSE NEIGHBOUR: 'it returns false'. Refute it at one input. -/
def packOneFormWrong : ChangeSpec := { name := "packOneForm", fn := fun _ => fun
  | [d1, d2] => { results := [.lit (.bool false)], args := [d1, d2] }
  | _ => none }
def PackOneFormWrongFalsely : Prop := packOneFormRow.holds Try.pinned (OpenSpec.ofChange packOneFormWrong)

/- THE SECOND FORM. 'bulk': how many values and letters a reading holds, each counted each time it is reached (what is shared counts as often as it is met; a slice's spare places count too). A statement '..UptoSaid' is the law's where the arguments, and the package variables that the reading takes, are together of bulk at most 1048576: NARROWER than '..Said'. Prove '..Said' where nothing that the law and all that it calls make is longer than what came in: it says more and counts as full. Else prove '..UptoSaid'. A law counts once. -/
mutual
def uptoBulk {H : Type} : DataW H → Nat
  | .lit (.string bytes) => bytes.length + 1
  | .lit _ => 1
  | .nil => 1
  | .ptr d => uptoBulk d + 1
  | .slice elems spare => uptoBulkAll elems + uptoBulkAll spare + 1
  | .agg parts => uptoBulkAll parts + 1
  | .iface _ d => uptoBulk d + 1
  | .map entries => uptoBulkEntries entries + 1
  | .held _ => 1
def uptoBulkAll {H : Type} : List (DataW H) → Nat
  | [] => 0
  | d :: r => uptoBulk d + uptoBulkAll r
def uptoBulkEntries {H : Type} : List (Lit × DataW H) → Nat
  | [] => 0
  | x :: r => uptoBulkEntry x + uptoBulkEntries r
def uptoBulkEntry {H : Type} : Lit × DataW H → Nat
  | (.string bytes, d) => bytes.length + uptoBulk d + 1
  | (_, d) => uptoBulk d + 1
 end
def uptoSmall : (H : Type) → List (DataW H) → Bool := fun _ ds => decide (uptoBulkAll ds ≤ 1048576)
def OpenSpec.upto (s : _root_.Go.ChangeSpec) : _root_.Go.OpenSpec := { _root_.Go.OpenSpec.ofChange s with cond := some uptoSmall }

/-- 'odysseylaw03.PackNumbers', WHERE WHAT IT READS IS OF BULK AT MOST 1048576: true; the input reads as it did. -/
def packNumbersUptoRow : OpenClaim := { program := "ytfifcanpdjdhcaa", sum := "02663ca29f4b73be83a0e217238935f69fd8d064ce66c3d9b2b6844ac697b367", func := "odyssey/odysseylaw03.PackNumbers", spec := "packNumbers", apart := false, narrowed := true }
def PackNumbersUptoSaid : Prop := packNumbersUptoRow.holds Try.pinned (OpenSpec.upto packNumbersSpec)

/-- 'odysseylaw03.PackPrefix', WHERE WHAT IT READS IS OF BULK AT MOST 1048576: true; the input reads as it did. -/
def packPrefixUptoRow : OpenClaim := { program := "ytfifcanpdjdhcaa", sum := "02663ca29f4b73be83a0e217238935f69fd8d064ce66c3d9b2b6844ac697b367", func := "odyssey/odysseylaw03.PackPrefix", spec := "packPrefix", apart := false, narrowed := true }
def PackPrefixUptoSaid : Prop := packPrefixUptoRow.holds Try.pinned (OpenSpec.upto packPrefixSpec)

/-- 'odysseylaw03.PackTakes', WHERE WHAT IT READS IS OF BULK AT MOST 1048576: true; the input reads as it did. -/
def packTakesUptoRow : OpenClaim := { program := "ytfifcanpdjdhcaa", sum := "02663ca29f4b73be83a0e217238935f69fd8d064ce66c3d9b2b6844ac697b367", func := "odyssey/odysseylaw03.PackTakes", spec := "packTakes", apart := false, narrowed := true }
def PackTakesUptoSaid : Prop := packTakesUptoRow.holds Try.pinned (OpenSpec.upto packTakesSpec)

/-- 'odysseylaw03.PackTexts', WHERE WHAT IT READS IS OF BULK AT MOST 1048576: true; the input reads as it did. -/
def packTextsUptoRow : OpenClaim := { program := "ytfifcanpdjdhcaa", sum := "02663ca29f4b73be83a0e217238935f69fd8d064ce66c3d9b2b6844ac697b367", func := "odyssey/odysseylaw03.PackTexts", spec := "packTexts", inPlace := ["internal/abi.NoEscape", "internal/bytealg.MakeNoZero"], apart := false, narrowed := true }
def PackTextsUptoSaid : Prop := packTextsUptoRow.holds Try.pinned (OpenSpec.upto packTextsSpec)

/-- 'odysseylaw03.PackLists', WHERE WHAT IT READS IS OF BULK AT MOST 1048576: true; the input reads as it did. -/
def packListsUptoRow : OpenClaim := { program := "ytfifcanpdjdhcaa", sum := "02663ca29f4b73be83a0e217238935f69fd8d064ce66c3d9b2b6844ac697b367", func := "odyssey/odysseylaw03.PackLists", spec := "packLists", inPlace := ["internal/abi.NoEscape", "internal/bytealg.MakeNoZero"], apart := false, narrowed := true }
def PackListsUptoSaid : Prop := packListsUptoRow.holds Try.pinned (OpenSpec.upto packListsSpec)

/-- 'odysseylaw03.PackBack', WHERE WHAT IT READS IS OF BULK AT MOST 1048576: true; the input reads as it did. -/
def packBackUptoRow : OpenClaim := { program := "ytfifcanpdjdhcaa", sum := "02663ca29f4b73be83a0e217238935f69fd8d064ce66c3d9b2b6844ac697b367", func := "odyssey/odysseylaw03.PackBack", spec := "packBack", inPlace := ["internal/abi.NoEscape", "internal/bytealg.MakeNoZero"], apart := false, narrowed := true }
def PackBackUptoSaid : Prop := packBackUptoRow.holds Try.pinned (OpenSpec.upto packBackSpec)

/-- 'odysseylaw03.PackOneForm', WHERE WHAT IT READS IS OF BULK AT MOST 1048576: true; the input reads as it did. -/
def packOneFormUptoRow : OpenClaim := { program := "ytfifcanpdjdhcaa", sum := "02663ca29f4b73be83a0e217238935f69fd8d064ce66c3d9b2b6844ac697b367", func := "odyssey/odysseylaw03.PackOneForm", spec := "packOneForm", inPlace := ["internal/abi.NoEscape", "internal/bytealg.MakeNoZero"], apart := false, narrowed := true }
def PackOneFormUptoSaid : Prop := packOneFormUptoRow.holds Try.pinned (OpenSpec.upto packOneFormSpec)

end Rows
end Go.Proofs.Ytfifcanpdjdhcaa
