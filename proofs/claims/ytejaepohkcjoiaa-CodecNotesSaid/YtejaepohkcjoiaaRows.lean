/-
  No cell of these rows narrows 'for every input' (looked for: loops, veiled, ifaces, maps, wideKeys, modest, calm, conditions, laid).
  DERIVED. THE GIVEN ROWS OF THIS SEAT. 7 by the template 'for every input the law returns true; each argument reads behind the call as it read before'; 0 by the template 'total and deterministic' (their statements: YtejaepohkcjoiaaTotals.lean).
  GIVEN WITH THE SEED: the statements are not yours to turn. If you find one false, say at which input.
  Laid BY PROGRAM, IN A SANDBOX (cutbox-rows.mjs): the forced cells as the released guide's own fill.sh prints them over the translation f1fbdee68bcee150… (all of the seat's roots in one cut). By AI agents, Wed Nov 11 2026. No macro, syntax, notation, axiom, sorry.
-/
import Derived.Test.YtejaepohkcjoiaaChecked
import GoSem.Claim
import GoSem.ClaimJoined
import GoSem.ClaimMapViews
import Derived.JoinedTies
import Derived.KernelRfl
namespace Go.Proofs.Ytejaepohkcjoiaa
/- THE CELL 'sum', in the pinned program and in every row, IS THE sha256 OF THE DUMP (.gsa) THAT YtejaepohkcjoiaaProg.lean LOADS. Nothing in Lean hashes anything: it is a label: what it is worth is what the hold of that sum in a sandbox is worth. -/
noncomputable def Try.pinned : Pinned := { name := "ytejaepohkcjoiaa", sum := "f1fbdee68bcee15023627dd6c6c484382f7588ba80876077c856d3dbca77390b", checked := Try.checked }
namespace Rows
def none {H : Type} : Left H := { results := [], args := [] }

/-- 'odysseylaw07.CodecLetters': WHATEVER THE INPUT: true; the input reads as it did. -/
def codecLettersSpec : ChangeSpec := { name := "codecLetters", fn := fun _ => fun
  | [d] => { results := [.lit (.bool true)], args := [d] }
  | _ => none }
def codecLettersRow : OpenClaim := { program := "ytejaepohkcjoiaa", sum := "f1fbdee68bcee15023627dd6c6c484382f7588ba80876077c856d3dbca77390b", func := "odyssey/odysseylaw07.CodecLetters", spec := "codecLetters", unfollowed := true, recurses := true, apart := false }
def CodecLettersSaid : Prop := codecLettersRow.holds Try.pinned (OpenSpec.ofChange codecLettersSpec)

/-- ITS FALSE NEIGHBOUR: 'it returns false'. Refute it at one input. -/
def codecLettersWrong : ChangeSpec := { name := "codecLetters", fn := fun _ => fun
  | [d] => { results := [.lit (.bool false)], args := [d] }
  | _ => none }
def CodecLettersWrongFalsely : Prop := codecLettersRow.holds Try.pinned (OpenSpec.ofChange codecLettersWrong)

/-- 'odysseylaw07.CodecEvents': WHATEVER THE INPUT: true; the input reads as it did. -/
def codecEventsSpec : ChangeSpec := { name := "codecEvents", fn := fun _ => fun
  | [d] => { results := [.lit (.bool true)], args := [d] }
  | _ => none }
def codecEventsRow : OpenClaim := { program := "ytejaepohkcjoiaa", sum := "f1fbdee68bcee15023627dd6c6c484382f7588ba80876077c856d3dbca77390b", func := "odyssey/odysseylaw07.CodecEvents", spec := "codecEvents", unfollowed := true, recurses := true, apart := false }
def CodecEventsSaid : Prop := codecEventsRow.holds Try.pinned (OpenSpec.ofChange codecEventsSpec)

/-- ITS FALSE NEIGHBOUR: 'it returns false'. Refute it at one input. -/
def codecEventsWrong : ChangeSpec := { name := "codecEvents", fn := fun _ => fun
  | [d] => { results := [.lit (.bool false)], args := [d] }
  | _ => none }
def CodecEventsWrongFalsely : Prop := codecEventsRow.holds Try.pinned (OpenSpec.ofChange codecEventsWrong)

/-- 'odysseylaw07.CodecNotes': WHATEVER THE INPUT: true; the input reads as it did. -/
def codecNotesSpec : ChangeSpec := { name := "codecNotes", fn := fun _ => fun
  | [d] => { results := [.lit (.bool true)], args := [d] }
  | _ => none }
def codecNotesRow : OpenClaim := { program := "ytejaepohkcjoiaa", sum := "f1fbdee68bcee15023627dd6c6c484382f7588ba80876077c856d3dbca77390b", func := "odyssey/odysseylaw07.CodecNotes", spec := "codecNotes", unfollowed := true, recurses := true, apart := false }
def CodecNotesSaid : Prop := codecNotesRow.holds Try.pinned (OpenSpec.ofChange codecNotesSpec)

/-- ITS FALSE NEIGHBOUR: 'it returns false'. Refute it at one input. -/
def codecNotesWrong : ChangeSpec := { name := "codecNotes", fn := fun _ => fun
  | [d] => { results := [.lit (.bool false)], args := [d] }
  | _ => none }
def CodecNotesWrongFalsely : Prop := codecNotesRow.holds Try.pinned (OpenSpec.ofChange codecNotesWrong)

/-- 'odysseylaw07.CodecLettersBack': WHATEVER THE INPUT: true; the input reads as it did. -/
def codecLettersBackSpec : ChangeSpec := { name := "codecLettersBack", fn := fun _ => fun
  | [d1, d2] => { results := [.lit (.bool true)], args := [d1, d2] }
  | _ => none }
def codecLettersBackRow : OpenClaim := { program := "ytejaepohkcjoiaa", sum := "f1fbdee68bcee15023627dd6c6c484382f7588ba80876077c856d3dbca77390b", func := "odyssey/odysseylaw07.CodecLettersBack", spec := "codecLettersBack", unfollowed := true, recurses := true, apart := false }
def CodecLettersBackSaid : Prop := codecLettersBackRow.holds Try.pinned (OpenSpec.ofChange codecLettersBackSpec)

/-- ITS FALSE NEIGHBOUR: 'it returns false'. Refute it at one input. -/
def codecLettersBackWrong : ChangeSpec := { name := "codecLettersBack", fn := fun _ => fun
  | [d1, d2] => { results := [.lit (.bool false)], args := [d1, d2] }
  | _ => none }
def CodecLettersBackWrongFalsely : Prop := codecLettersBackRow.holds Try.pinned (OpenSpec.ofChange codecLettersBackWrong)

/-- 'odysseylaw07.CodecReads': WHATEVER THE INPUT: true; the input reads as it did. -/
def codecReadsSpec : ChangeSpec := { name := "codecReads", fn := fun _ => fun
  | [d] => { results := [.lit (.bool true)], args := [d] }
  | _ => none }
def codecReadsRow : OpenClaim := { program := "ytejaepohkcjoiaa", sum := "f1fbdee68bcee15023627dd6c6c484382f7588ba80876077c856d3dbca77390b", func := "odyssey/odysseylaw07.CodecReads", spec := "codecReads", unfollowed := true, recurses := true, apart := false }
def CodecReadsSaid : Prop := codecReadsRow.holds Try.pinned (OpenSpec.ofChange codecReadsSpec)

/-- ITS FALSE NEIGHBOUR: 'it returns false'. Refute it at one input. -/
def codecReadsWrong : ChangeSpec := { name := "codecReads", fn := fun _ => fun
  | [d] => { results := [.lit (.bool false)], args := [d] }
  | _ => none }
def CodecReadsWrongFalsely : Prop := codecReadsRow.holds Try.pinned (OpenSpec.ofChange codecReadsWrong)

/-- 'odysseylaw07.CodecNotesBack': WHATEVER THE INPUT: true; the input reads as it did. -/
def codecNotesBackSpec : ChangeSpec := { name := "codecNotesBack", fn := fun _ => fun
  | [d1, d2] => { results := [.lit (.bool true)], args := [d1, d2] }
  | _ => none }
def codecNotesBackRow : OpenClaim := { program := "ytejaepohkcjoiaa", sum := "f1fbdee68bcee15023627dd6c6c484382f7588ba80876077c856d3dbca77390b", func := "odyssey/odysseylaw07.CodecNotesBack", spec := "codecNotesBack", unfollowed := true, recurses := true, apart := false }
def CodecNotesBackSaid : Prop := codecNotesBackRow.holds Try.pinned (OpenSpec.ofChange codecNotesBackSpec)

/-- ITS FALSE NEIGHBOUR: 'it returns false'. Refute it at one input. -/
def codecNotesBackWrong : ChangeSpec := { name := "codecNotesBack", fn := fun _ => fun
  | [d1, d2] => { results := [.lit (.bool false)], args := [d1, d2] }
  | _ => none }
def CodecNotesBackWrongFalsely : Prop := codecNotesBackRow.holds Try.pinned (OpenSpec.ofChange codecNotesBackWrong)

/-- 'odysseylaw07.CodecOneForm': WHATEVER THE INPUT: true; the input reads as it did. -/
def codecOneFormSpec : ChangeSpec := { name := "codecOneForm", fn := fun _ => fun
  | [d] => { results := [.lit (.bool true)], args := [d] }
  | _ => none }
def codecOneFormRow : OpenClaim := { program := "ytejaepohkcjoiaa", sum := "f1fbdee68bcee15023627dd6c6c484382f7588ba80876077c856d3dbca77390b", func := "odyssey/odysseylaw07.CodecOneForm", spec := "codecOneForm", unfollowed := true, recurses := true, apart := false }
def CodecOneFormSaid : Prop := codecOneFormRow.holds Try.pinned (OpenSpec.ofChange codecOneFormSpec)

/-- ITS FALSE NEIGHBOUR: 'it returns false'. Refute it at one input. -/
def codecOneFormWrong : ChangeSpec := { name := "codecOneForm", fn := fun _ => fun
  | [d] => { results := [.lit (.bool false)], args := [d] }
  | _ => none }
def CodecOneFormWrongFalsely : Prop := codecOneFormRow.holds Try.pinned (OpenSpec.ofChange codecOneFormWrong)

/- THE SECOND FORM. 'bulk': how many values and letters a reading holds, each counted each time it is reached (what is shared counts as often as it is met; a slice's spare places count too). A statement '..UptoSaid' is the law's where the arguments, and the package variables that the reading takes, are together of bulk at most 1048576: NARROWER than '..Said'. Prove '..Said' where nothing that the law and all that it calls make is longer than what came in: it says more and counts as full. Else prove '..UptoSaid'. A law counts once. -/
mutual
def uptoBulk {H : Type} : DataW H → Nat
  | .lit (.string bytes) => bytes.length + 1
  | .lit _ => 1
  | .nil => 1
  | .ptr d => uptoBulk d + 1
  | .slice elems spare => uptoBulkAll elems + uptoBulkAll spare + 1
  | .agg parts => uptoBulkAll parts + 1
  | .iface _ d => uptoBulk d + 1
  | .map entries => uptoBulkEntries entries + 1
  | .held _ => 1
def uptoBulkAll {H : Type} : List (DataW H) → Nat
  | [] => 0
  | d :: r => uptoBulk d + uptoBulkAll r
def uptoBulkEntries {H : Type} : List (Lit × DataW H) → Nat
  | [] => 0
  | x :: r => uptoBulkEntry x + uptoBulkEntries r
def uptoBulkEntry {H : Type} : Lit × DataW H → Nat
  | (.string bytes, d) => bytes.length + uptoBulk d + 1
  | (_, d) => uptoBulk d + 1
 end
def uptoSmall : (H : Type) → List (DataW H) → Bool := fun _ ds => decide (uptoBulkAll ds ≤ 1048576)
def OpenSpec.upto (s : _root_.Go.ChangeSpec) : _root_.Go.OpenSpec := { _root_.Go.OpenSpec.ofChange s with cond := some uptoSmall }

/-- 'odysseylaw07.CodecLetters', WHERE WHAT IT READS IS OF BULK AT MOST 1048576: true; the input reads as it did. -/
def codecLettersUptoRow : OpenClaim := { program := "ytejaepohkcjoiaa", sum := "f1fbdee68bcee15023627dd6c6c484382f7588ba80876077c856d3dbca77390b", func := "odyssey/odysseylaw07.CodecLetters", spec := "codecLetters", unfollowed := true, recurses := true, apart := false, narrowed := true }
def CodecLettersUptoSaid : Prop := codecLettersUptoRow.holds Try.pinned (OpenSpec.upto codecLettersSpec)

/-- 'odysseylaw07.CodecEvents', WHERE WHAT IT READS IS OF BULK AT MOST 1048576: true; the input reads as it did. -/
def codecEventsUptoRow : OpenClaim := { program := "ytejaepohkcjoiaa", sum := "f1fbdee68bcee15023627dd6c6c484382f7588ba80876077c856d3dbca77390b", func := "odyssey/odysseylaw07.CodecEvents", spec := "codecEvents", unfollowed := true, recurses := true, apart := false, narrowed := true }
def CodecEventsUptoSaid : Prop := codecEventsUptoRow.holds Try.pinned (OpenSpec.upto codecEventsSpec)

/-- 'odysseylaw07.CodecNotes', WHERE WHAT IT READS IS OF BULK AT MOST 1048576: true; the input reads as it did. -/
def codecNotesUptoRow : OpenClaim := { program := "ytejaepohkcjoiaa", sum := "f1fbdee68bcee15023627dd6c6c484382f7588ba80876077c856d3dbca77390b", func := "odyssey/odysseylaw07.CodecNotes", spec := "codecNotes", unfollowed := true, recurses := true, apart := false, narrowed := true }
def CodecNotesUptoSaid : Prop := codecNotesUptoRow.holds Try.pinned (OpenSpec.upto codecNotesSpec)

/-- 'odysseylaw07.CodecLettersBack', WHERE WHAT IT READS IS OF BULK AT MOST 1048576: true; the input reads as it did. -/
def codecLettersBackUptoRow : OpenClaim := { program := "ytejaepohkcjoiaa", sum := "f1fbdee68bcee15023627dd6c6c484382f7588ba80876077c856d3dbca77390b", func := "odyssey/odysseylaw07.CodecLettersBack", spec := "codecLettersBack", unfollowed := true, recurses := true, apart := false, narrowed := true }
def CodecLettersBackUptoSaid : Prop := codecLettersBackUptoRow.holds Try.pinned (OpenSpec.upto codecLettersBackSpec)

/-- 'odysseylaw07.CodecReads', WHERE WHAT IT READS IS OF BULK AT MOST 1048576: true; the input reads as it did. -/
def codecReadsUptoRow : OpenClaim := { program := "ytejaepohkcjoiaa", sum := "f1fbdee68bcee15023627dd6c6c484382f7588ba80876077c856d3dbca77390b", func := "odyssey/odysseylaw07.CodecReads", spec := "codecReads", unfollowed := true, recurses := true, apart := false, narrowed := true }
def CodecReadsUptoSaid : Prop := codecReadsUptoRow.holds Try.pinned (OpenSpec.upto codecReadsSpec)

/-- 'odysseylaw07.CodecNotesBack', WHERE WHAT IT READS IS OF BULK AT MOST 1048576: true; the input reads as it did. -/
def codecNotesBackUptoRow : OpenClaim := { program := "ytejaepohkcjoiaa", sum := "f1fbdee68bcee15023627dd6c6c484382f7588ba80876077c856d3dbca77390b", func := "odyssey/odysseylaw07.CodecNotesBack", spec := "codecNotesBack", unfollowed := true, recurses := true, apart := false, narrowed := true }
def CodecNotesBackUptoSaid : Prop := codecNotesBackUptoRow.holds Try.pinned (OpenSpec.upto codecNotesBackSpec)

/-- 'odysseylaw07.CodecOneForm', WHERE WHAT IT READS IS OF BULK AT MOST 1048576: true; the input reads as it did. -/
def codecOneFormUptoRow : OpenClaim := { program := "ytejaepohkcjoiaa", sum := "f1fbdee68bcee15023627dd6c6c484382f7588ba80876077c856d3dbca77390b", func := "odyssey/odysseylaw07.CodecOneForm", spec := "codecOneForm", unfollowed := true, recurses := true, apart := false, narrowed := true }
def CodecOneFormUptoSaid : Prop := codecOneFormUptoRow.holds Try.pinned (OpenSpec.upto codecOneFormSpec)

end Rows
end Go.Proofs.Ytejaepohkcjoiaa
