/-
  NARROWER THAN 'FOR EVERY INPUT', by the rows' own cells (each row's printed sentence says how): PhaseStarts: laid · PhaseLooks: laid · PhaseOns: laid · PhaseGoes: laid · PhaseNoted: laid · PhaseOpen: laid · PhaseEnds: laid · PhasePaths: laid · PhaseCosts: laid.
  DERIVED. THE GIVEN ROWS OF THIS SEAT. 9 by the template 'for every input the law returns true; each argument reads behind the call as it read before'; 0 by the template 'total and deterministic' (their statements: YtgjddnaidjbhlaaGreatDoorTotals.lean).
  GIVEN WITH THE SEED: the statements are not yours to turn. If you find one false, say at which input.
  Laid BY PROGRAM, IN A SANDBOX (cutbox-rows.mjs): the forced cells as the released guide's own fill.sh prints them over the translation 5ffdfd593b58e4ae… (all of the seat's roots in one cut). By AI agents, Wed Nov 11 2026. No macro, syntax, notation, axiom, sorry.
-/
import Derived.Test.YtgjddnaidjbhlaaGreatDoorChecked
import GoSem.PinnedTables
import GoSem.Claim
import GoSem.ClaimJoined
import GoSem.ClaimMapViews
import Derived.JoinedTies
import Derived.KernelRfl
namespace Go.Proofs.YtgjddnaidjbhlaaGreatDoor
/- THE CELL 'sum', in the pinned program and in every row, IS THE sha256 OF THE DUMP (.gsa) THAT YtgjddnaidjbhlaaGreatDoorProg.lean LOADS. Nothing in Lean hashes anything: it is a label: what it is worth is what the hold of that sum in a sandbox is worth. -/
noncomputable def Tryz.pinned : Pinned := { name := "ytgjddnaidjbhlaagreatdoor", sum := "5ffdfd593b58e4ae89d6b86aea35f9c3dd24b42d53d3d0d28648812a62b91118", checked := Tryz.checked }
namespace Rows
def none {H : Type} : Left H := { results := [], args := [] }

/- WHAT THE LISTED PACKAGE-LEVEL VARIABLES READ AS WHEN THE CALL BEGINS. Each datum BY PROGRAM (the guide's laid-datum.mjs) off the statement by which the dump's own 'gosem.cut.vars' lays the variable. In a bare row this is a premise. The card (YtgjddnaidjbhlaaGreatDoorCards.lean) ties it to the program's text. -/
def laid_unicode_utf8_acceptRanges {H : Type} : DataW H := .agg [.agg [.lit (.int .u8 128), .lit (.int .u8 191)], .agg [.lit (.int .u8 160), .lit (.int .u8 191)], .agg [.lit (.int .u8 128), .lit (.int .u8 159)], .agg [.lit (.int .u8 144), .lit (.int .u8 191)], .agg [.lit (.int .u8 128), .lit (.int .u8 143)], .agg [.lit (.int .u8 0), .lit (.int .u8 0)], .agg [.lit (.int .u8 0), .lit (.int .u8 0)], .agg [.lit (.int .u8 0), .lit (.int .u8 0)], .agg [.lit (.int .u8 0), .lit (.int .u8 0)], .agg [.lit (.int .u8 0), .lit (.int .u8 0)], .agg [.lit (.int .u8 0), .lit (.int .u8 0)], .agg [.lit (.int .u8 0), .lit (.int .u8 0)], .agg [.lit (.int .u8 0), .lit (.int .u8 0)], .agg [.lit (.int .u8 0), .lit (.int .u8 0)], .agg [.lit (.int .u8 0), .lit (.int .u8 0)], .agg [.lit (.int .u8 0), .lit (.int .u8 0)]]
/-- One of Go's own tables, pinned by name: the form's constant. -/
def laid_unicode_utf8_first : DataW Unit := Go.Pinned.utf8First

/-- 'odysseylaw19.PhaseStarts': WHATEVER THE INPUT: true; the input reads as it did. -/
def phaseStartsSpec : ChangeSpec := { name := "phaseStarts", fn := fun _ => fun
  | [d1, d2, d3] => { results := [.lit (.bool true)], args := [d1, d2, d3] }
  | _ => none }
def phaseStartsRow : OpenClaim := { program := "ytgjddnaidjbhlaagreatdoor", sum := "5ffdfd593b58e4ae89d6b86aea35f9c3dd24b42d53d3d0d28648812a62b91118", func := "odyssey/odysseylaw19.PhaseStarts", spec := "phaseStarts", unfollowed := true, recurses := true, named := ["unicode/utf8.first", "unicode/utf8.acceptRanges"], apart := false, laid := [("unicode/utf8.acceptRanges", laid_unicode_utf8_acceptRanges), ("unicode/utf8.first", laid_unicode_utf8_first)] }
def PhaseStartsSaid : Prop := phaseStartsRow.holds Tryz.pinned (OpenSpec.ofChange phaseStartsSpec)

/-- ITS FALSE NEIGHBOUR: 'it returns false'. Refute it at one input. -/
def phaseStartsWrong : ChangeSpec := { name := "phaseStarts", fn := fun _ => fun
  | [d1, d2, d3] => { results := [.lit (.bool false)], args := [d1, d2, d3] }
  | _ => none }
def PhaseStartsWrongFalsely : Prop := phaseStartsRow.holds Tryz.pinned (OpenSpec.ofChange phaseStartsWrong)

/-- 'odysseylaw19.PhaseLooks': WHATEVER THE INPUT: true; the input reads as it did. -/
def phaseLooksSpec : ChangeSpec := { name := "phaseLooks", fn := fun _ => fun
  | [d1, d2] => { results := [.lit (.bool true)], args := [d1, d2] }
  | _ => none }
def phaseLooksRow : OpenClaim := { program := "ytgjddnaidjbhlaagreatdoor", sum := "5ffdfd593b58e4ae89d6b86aea35f9c3dd24b42d53d3d0d28648812a62b91118", func := "odyssey/odysseylaw19.PhaseLooks", spec := "phaseLooks", unfollowed := true, recurses := true, named := ["unicode/utf8.first", "unicode/utf8.acceptRanges"], apart := false, laid := [("unicode/utf8.acceptRanges", laid_unicode_utf8_acceptRanges), ("unicode/utf8.first", laid_unicode_utf8_first)] }
def PhaseLooksSaid : Prop := phaseLooksRow.holds Tryz.pinned (OpenSpec.ofChange phaseLooksSpec)

/-- ITS FALSE NEIGHBOUR: 'it returns false'. Refute it at one input. -/
def phaseLooksWrong : ChangeSpec := { name := "phaseLooks", fn := fun _ => fun
  | [d1, d2] => { results := [.lit (.bool false)], args := [d1, d2] }
  | _ => none }
def PhaseLooksWrongFalsely : Prop := phaseLooksRow.holds Tryz.pinned (OpenSpec.ofChange phaseLooksWrong)

/-- 'odysseylaw19.PhaseOns': WHATEVER THE INPUT: true; the input reads as it did. -/
def phaseOnsSpec : ChangeSpec := { name := "phaseOns", fn := fun _ => fun
  | [d1, d2, d3] => { results := [.lit (.bool true)], args := [d1, d2, d3] }
  | _ => none }
def phaseOnsRow : OpenClaim := { program := "ytgjddnaidjbhlaagreatdoor", sum := "5ffdfd593b58e4ae89d6b86aea35f9c3dd24b42d53d3d0d28648812a62b91118", func := "odyssey/odysseylaw19.PhaseOns", spec := "phaseOns", unfollowed := true, recurses := true, named := ["unicode/utf8.first", "unicode/utf8.acceptRanges"], apart := false, laid := [("unicode/utf8.acceptRanges", laid_unicode_utf8_acceptRanges), ("unicode/utf8.first", laid_unicode_utf8_first)] }
def PhaseOnsSaid : Prop := phaseOnsRow.holds Tryz.pinned (OpenSpec.ofChange phaseOnsSpec)

/-- ITS FALSE NEIGHBOUR: 'it returns false'. Refute it at one input. -/
def phaseOnsWrong : ChangeSpec := { name := "phaseOns", fn := fun _ => fun
  | [d1, d2, d3] => { results := [.lit (.bool false)], args := [d1, d2, d3] }
  | _ => none }
def PhaseOnsWrongFalsely : Prop := phaseOnsRow.holds Tryz.pinned (OpenSpec.ofChange phaseOnsWrong)

/-- 'odysseylaw19.PhaseGoes': WHATEVER THE INPUT: true; the input reads as it did. -/
def phaseGoesSpec : ChangeSpec := { name := "phaseGoes", fn := fun _ => fun
  | [d] => { results := [.lit (.bool true)], args := [d] }
  | _ => none }
def phaseGoesRow : OpenClaim := { program := "ytgjddnaidjbhlaagreatdoor", sum := "5ffdfd593b58e4ae89d6b86aea35f9c3dd24b42d53d3d0d28648812a62b91118", func := "odyssey/odysseylaw19.PhaseGoes", spec := "phaseGoes", unfollowed := true, recurses := true, named := ["unicode/utf8.first", "unicode/utf8.acceptRanges"], apart := false, laid := [("unicode/utf8.acceptRanges", laid_unicode_utf8_acceptRanges), ("unicode/utf8.first", laid_unicode_utf8_first)] }
def PhaseGoesSaid : Prop := phaseGoesRow.holds Tryz.pinned (OpenSpec.ofChange phaseGoesSpec)

/-- ITS FALSE NEIGHBOUR: 'it returns false'. Refute it at one input. -/
def phaseGoesWrong : ChangeSpec := { name := "phaseGoes", fn := fun _ => fun
  | [d] => { results := [.lit (.bool false)], args := [d] }
  | _ => none }
def PhaseGoesWrongFalsely : Prop := phaseGoesRow.holds Tryz.pinned (OpenSpec.ofChange phaseGoesWrong)

/-- 'odysseylaw19.PhaseNoted': WHATEVER THE INPUT: true; the input reads as it did. -/
def phaseNotedSpec : ChangeSpec := { name := "phaseNoted", fn := fun _ => fun
  | [d] => { results := [.lit (.bool true)], args := [d] }
  | _ => none }
def phaseNotedRow : OpenClaim := { program := "ytgjddnaidjbhlaagreatdoor", sum := "5ffdfd593b58e4ae89d6b86aea35f9c3dd24b42d53d3d0d28648812a62b91118", func := "odyssey/odysseylaw19.PhaseNoted", spec := "phaseNoted", unfollowed := true, recurses := true, named := ["unicode/utf8.first", "unicode/utf8.acceptRanges"], apart := false, laid := [("unicode/utf8.acceptRanges", laid_unicode_utf8_acceptRanges), ("unicode/utf8.first", laid_unicode_utf8_first)] }
def PhaseNotedSaid : Prop := phaseNotedRow.holds Tryz.pinned (OpenSpec.ofChange phaseNotedSpec)

/-- ITS FALSE NEIGHBOUR: 'it returns false'. Refute it at one input. -/
def phaseNotedWrong : ChangeSpec := { name := "phaseNoted", fn := fun _ => fun
  | [d] => { results := [.lit (.bool false)], args := [d] }
  | _ => none }
def PhaseNotedWrongFalsely : Prop := phaseNotedRow.holds Tryz.pinned (OpenSpec.ofChange phaseNotedWrong)

/-- 'odysseylaw19.PhaseOpen': WHATEVER THE INPUT: true; the input reads as it did. -/
def phaseOpenSpec : ChangeSpec := { name := "phaseOpen", fn := fun _ => fun
  | [d] => { results := [.lit (.bool true)], args := [d] }
  | _ => none }
def phaseOpenRow : OpenClaim := { program := "ytgjddnaidjbhlaagreatdoor", sum := "5ffdfd593b58e4ae89d6b86aea35f9c3dd24b42d53d3d0d28648812a62b91118", func := "odyssey/odysseylaw19.PhaseOpen", spec := "phaseOpen", unfollowed := true, recurses := true, named := ["unicode/utf8.first", "unicode/utf8.acceptRanges"], apart := false, laid := [("unicode/utf8.acceptRanges", laid_unicode_utf8_acceptRanges), ("unicode/utf8.first", laid_unicode_utf8_first)] }
def PhaseOpenSaid : Prop := phaseOpenRow.holds Tryz.pinned (OpenSpec.ofChange phaseOpenSpec)

/-- ITS FALSE NEIGHBOUR: 'it returns false'. Refute it at one input. -/
def phaseOpenWrong : ChangeSpec := { name := "phaseOpen", fn := fun _ => fun
  | [d] => { results := [.lit (.bool false)], args := [d] }
  | _ => none }
def PhaseOpenWrongFalsely : Prop := phaseOpenRow.holds Tryz.pinned (OpenSpec.ofChange phaseOpenWrong)

/-- 'odysseylaw19.PhaseEnds': WHATEVER THE INPUT: true; the input reads as it did. -/
def phaseEndsSpec : ChangeSpec := { name := "phaseEnds", fn := fun _ => fun
  | [d1, d2] => { results := [.lit (.bool true)], args := [d1, d2] }
  | _ => none }
def phaseEndsRow : OpenClaim := { program := "ytgjddnaidjbhlaagreatdoor", sum := "5ffdfd593b58e4ae89d6b86aea35f9c3dd24b42d53d3d0d28648812a62b91118", func := "odyssey/odysseylaw19.PhaseEnds", spec := "phaseEnds", unfollowed := true, recurses := true, named := ["unicode/utf8.first", "unicode/utf8.acceptRanges"], apart := false, laid := [("unicode/utf8.acceptRanges", laid_unicode_utf8_acceptRanges), ("unicode/utf8.first", laid_unicode_utf8_first)] }
def PhaseEndsSaid : Prop := phaseEndsRow.holds Tryz.pinned (OpenSpec.ofChange phaseEndsSpec)

/-- ITS FALSE NEIGHBOUR: 'it returns false'. Refute it at one input. -/
def phaseEndsWrong : ChangeSpec := { name := "phaseEnds", fn := fun _ => fun
  | [d1, d2] => { results := [.lit (.bool false)], args := [d1, d2] }
  | _ => none }
def PhaseEndsWrongFalsely : Prop := phaseEndsRow.holds Tryz.pinned (OpenSpec.ofChange phaseEndsWrong)

/-- 'odysseylaw19.PhasePaths': WHATEVER THE INPUT: true; the input reads as it did. -/
def phasePathsSpec : ChangeSpec := { name := "phasePaths", fn := fun _ => fun
  | [d] => { results := [.lit (.bool true)], args := [d] }
  | _ => none }
def phasePathsRow : OpenClaim := { program := "ytgjddnaidjbhlaagreatdoor", sum := "5ffdfd593b58e4ae89d6b86aea35f9c3dd24b42d53d3d0d28648812a62b91118", func := "odyssey/odysseylaw19.PhasePaths", spec := "phasePaths", unfollowed := true, recurses := true, named := ["unicode/utf8.first", "unicode/utf8.acceptRanges"], apart := false, laid := [("unicode/utf8.acceptRanges", laid_unicode_utf8_acceptRanges), ("unicode/utf8.first", laid_unicode_utf8_first)] }
def PhasePathsSaid : Prop := phasePathsRow.holds Tryz.pinned (OpenSpec.ofChange phasePathsSpec)

/-- ITS FALSE NEIGHBOUR: 'it returns false'. Refute it at one input. -/
def phasePathsWrong : ChangeSpec := { name := "phasePaths", fn := fun _ => fun
  | [d] => { results := [.lit (.bool false)], args := [d] }
  | _ => none }
def PhasePathsWrongFalsely : Prop := phasePathsRow.holds Tryz.pinned (OpenSpec.ofChange phasePathsWrong)

/-- 'odysseylaw19.PhaseCosts': WHATEVER THE INPUT: true; the input reads as it did. -/
def phaseCostsSpec : ChangeSpec := { name := "phaseCosts", fn := fun _ => fun
  | [d] => { results := [.lit (.bool true)], args := [d] }
  | _ => none }
def phaseCostsRow : OpenClaim := { program := "ytgjddnaidjbhlaagreatdoor", sum := "5ffdfd593b58e4ae89d6b86aea35f9c3dd24b42d53d3d0d28648812a62b91118", func := "odyssey/odysseylaw19.PhaseCosts", spec := "phaseCosts", unfollowed := true, recurses := true, named := ["unicode/utf8.first", "unicode/utf8.acceptRanges"], apart := false, laid := [("unicode/utf8.acceptRanges", laid_unicode_utf8_acceptRanges), ("unicode/utf8.first", laid_unicode_utf8_first)] }
def PhaseCostsSaid : Prop := phaseCostsRow.holds Tryz.pinned (OpenSpec.ofChange phaseCostsSpec)

/-- ITS FALSE NEIGHBOUR: 'it returns false'. Refute it at one input. -/
def phaseCostsWrong : ChangeSpec := { name := "phaseCosts", fn := fun _ => fun
  | [d] => { results := [.lit (.bool false)], args := [d] }
  | _ => none }
def PhaseCostsWrongFalsely : Prop := phaseCostsRow.holds Tryz.pinned (OpenSpec.ofChange phaseCostsWrong)

/- THE SECOND FORM. 'bulk': how many values and letters a reading holds, each counted each time it is reached (what is shared counts as often as it is met; a slice's spare places count too). A statement '..UptoSaid' is the law's where the arguments, and the package variables that the reading takes, are together of bulk at most 1048576: NARROWER than '..Said'. Prove '..Said' where nothing that the law and all that it calls make is longer than what came in: it says more and counts as full. Else prove '..UptoSaid'. A law counts once. -/
mutual
def uptoBulk {H : Type} : DataW H → Nat
  | .lit (.string bytes) => bytes.length + 1
  | .lit _ => 1
  | .nil => 1
  | .ptr d => uptoBulk d + 1
  | .slice elems spare => uptoBulkAll elems + uptoBulkAll spare + 1
  | .agg parts => uptoBulkAll parts + 1
  | .iface _ d => uptoBulk d + 1
  | .map entries => uptoBulkEntries entries + 1
  | .held _ => 1
def uptoBulkAll {H : Type} : List (DataW H) → Nat
  | [] => 0
  | d :: r => uptoBulk d + uptoBulkAll r
def uptoBulkEntries {H : Type} : List (Lit × DataW H) → Nat
  | [] => 0
  | x :: r => uptoBulkEntry x + uptoBulkEntries r
def uptoBulkEntry {H : Type} : Lit × DataW H → Nat
  | (.string bytes, d) => bytes.length + uptoBulk d + 1
  | (_, d) => uptoBulk d + 1
 end
def uptoSmall : (H : Type) → List (DataW H) → Bool := fun _ ds => decide (uptoBulkAll ds ≤ 1048576)
def OpenSpec.upto (s : _root_.Go.ChangeSpec) : _root_.Go.OpenSpec := { _root_.Go.OpenSpec.ofChange s with cond := some uptoSmall }

/-- 'odysseylaw19.PhaseStarts', WHERE WHAT IT READS IS OF BULK AT MOST 1048576: true; the input reads as it did. -/
def phaseStartsUptoRow : OpenClaim := { program := "ytgjddnaidjbhlaagreatdoor", sum := "5ffdfd593b58e4ae89d6b86aea35f9c3dd24b42d53d3d0d28648812a62b91118", func := "odyssey/odysseylaw19.PhaseStarts", spec := "phaseStarts", unfollowed := true, recurses := true, named := ["unicode/utf8.first", "unicode/utf8.acceptRanges"], apart := false, laid := [("unicode/utf8.acceptRanges", laid_unicode_utf8_acceptRanges), ("unicode/utf8.first", laid_unicode_utf8_first)], narrowed := true }
def PhaseStartsUptoSaid : Prop := phaseStartsUptoRow.holds Tryz.pinned (OpenSpec.upto phaseStartsSpec)

/-- 'odysseylaw19.PhaseLooks', WHERE WHAT IT READS IS OF BULK AT MOST 1048576: true; the input reads as it did. -/
def phaseLooksUptoRow : OpenClaim := { program := "ytgjddnaidjbhlaagreatdoor", sum := "5ffdfd593b58e4ae89d6b86aea35f9c3dd24b42d53d3d0d28648812a62b91118", func := "odyssey/odysseylaw19.PhaseLooks", spec := "phaseLooks", unfollowed := true, recurses := true, named := ["unicode/utf8.first", "unicode/utf8.acceptRanges"], apart := false, laid := [("unicode/utf8.acceptRanges", laid_unicode_utf8_acceptRanges), ("unicode/utf8.first", laid_unicode_utf8_first)], narrowed := true }
def PhaseLooksUptoSaid : Prop := phaseLooksUptoRow.holds Tryz.pinned (OpenSpec.upto phaseLooksSpec)

/-- 'odysseylaw19.PhaseOns', WHERE WHAT IT READS IS OF BULK AT MOST 1048576: true; the input reads as it did. -/
def phaseOnsUptoRow : OpenClaim := { program := "ytgjddnaidjbhlaagreatdoor", sum := "5ffdfd593b58e4ae89d6b86aea35f9c3dd24b42d53d3d0d28648812a62b91118", func := "odyssey/odysseylaw19.PhaseOns", spec := "phaseOns", unfollowed := true, recurses := true, named := ["unicode/utf8.first", "unicode/utf8.acceptRanges"], apart := false, laid := [("unicode/utf8.acceptRanges", laid_unicode_utf8_acceptRanges), ("unicode/utf8.first", laid_unicode_utf8_first)], narrowed := true }
def PhaseOnsUptoSaid : Prop := phaseOnsUptoRow.holds Tryz.pinned (OpenSpec.upto phaseOnsSpec)

/-- 'odysseylaw19.PhaseGoes', WHERE WHAT IT READS IS OF BULK AT MOST 1048576: true; the input reads as it did. -/
def phaseGoesUptoRow : OpenClaim := { program := "ytgjddnaidjbhlaagreatdoor", sum := "5ffdfd593b58e4ae89d6b86aea35f9c3dd24b42d53d3d0d28648812a62b91118", func := "odyssey/odysseylaw19.PhaseGoes", spec := "phaseGoes", unfollowed := true, recurses := true, named := ["unicode/utf8.first", "unicode/utf8.acceptRanges"], apart := false, laid := [("unicode/utf8.acceptRanges", laid_unicode_utf8_acceptRanges), ("unicode/utf8.first", laid_unicode_utf8_first)], narrowed := true }
def PhaseGoesUptoSaid : Prop := phaseGoesUptoRow.holds Tryz.pinned (OpenSpec.upto phaseGoesSpec)

/-- 'odysseylaw19.PhaseNoted', WHERE WHAT IT READS IS OF BULK AT MOST 1048576: true; the input reads as it did. -/
def phaseNotedUptoRow : OpenClaim := { program := "ytgjddnaidjbhlaagreatdoor", sum := "5ffdfd593b58e4ae89d6b86aea35f9c3dd24b42d53d3d0d28648812a62b91118", func := "odyssey/odysseylaw19.PhaseNoted", spec := "phaseNoted", unfollowed := true, recurses := true, named := ["unicode/utf8.first", "unicode/utf8.acceptRanges"], apart := false, laid := [("unicode/utf8.acceptRanges", laid_unicode_utf8_acceptRanges), ("unicode/utf8.first", laid_unicode_utf8_first)], narrowed := true }
def PhaseNotedUptoSaid : Prop := phaseNotedUptoRow.holds Tryz.pinned (OpenSpec.upto phaseNotedSpec)

/-- 'odysseylaw19.PhaseOpen', WHERE WHAT IT READS IS OF BULK AT MOST 1048576: true; the input reads as it did. -/
def phaseOpenUptoRow : OpenClaim := { program := "ytgjddnaidjbhlaagreatdoor", sum := "5ffdfd593b58e4ae89d6b86aea35f9c3dd24b42d53d3d0d28648812a62b91118", func := "odyssey/odysseylaw19.PhaseOpen", spec := "phaseOpen", unfollowed := true, recurses := true, named := ["unicode/utf8.first", "unicode/utf8.acceptRanges"], apart := false, laid := [("unicode/utf8.acceptRanges", laid_unicode_utf8_acceptRanges), ("unicode/utf8.first", laid_unicode_utf8_first)], narrowed := true }
def PhaseOpenUptoSaid : Prop := phaseOpenUptoRow.holds Tryz.pinned (OpenSpec.upto phaseOpenSpec)

/-- 'odysseylaw19.PhaseEnds', WHERE WHAT IT READS IS OF BULK AT MOST 1048576: true; the input reads as it did. -/
def phaseEndsUptoRow : OpenClaim := { program := "ytgjddnaidjbhlaagreatdoor", sum := "5ffdfd593b58e4ae89d6b86aea35f9c3dd24b42d53d3d0d28648812a62b91118", func := "odyssey/odysseylaw19.PhaseEnds", spec := "phaseEnds", unfollowed := true, recurses := true, named := ["unicode/utf8.first", "unicode/utf8.acceptRanges"], apart := false, laid := [("unicode/utf8.acceptRanges", laid_unicode_utf8_acceptRanges), ("unicode/utf8.first", laid_unicode_utf8_first)], narrowed := true }
def PhaseEndsUptoSaid : Prop := phaseEndsUptoRow.holds Tryz.pinned (OpenSpec.upto phaseEndsSpec)

/-- 'odysseylaw19.PhasePaths', WHERE WHAT IT READS IS OF BULK AT MOST 1048576: true; the input reads as it did. -/
def phasePathsUptoRow : OpenClaim := { program := "ytgjddnaidjbhlaagreatdoor", sum := "5ffdfd593b58e4ae89d6b86aea35f9c3dd24b42d53d3d0d28648812a62b91118", func := "odyssey/odysseylaw19.PhasePaths", spec := "phasePaths", unfollowed := true, recurses := true, named := ["unicode/utf8.first", "unicode/utf8.acceptRanges"], apart := false, laid := [("unicode/utf8.acceptRanges", laid_unicode_utf8_acceptRanges), ("unicode/utf8.first", laid_unicode_utf8_first)], narrowed := true }
def PhasePathsUptoSaid : Prop := phasePathsUptoRow.holds Tryz.pinned (OpenSpec.upto phasePathsSpec)

/-- 'odysseylaw19.PhaseCosts', WHERE WHAT IT READS IS OF BULK AT MOST 1048576: true; the input reads as it did. -/
def phaseCostsUptoRow : OpenClaim := { program := "ytgjddnaidjbhlaagreatdoor", sum := "5ffdfd593b58e4ae89d6b86aea35f9c3dd24b42d53d3d0d28648812a62b91118", func := "odyssey/odysseylaw19.PhaseCosts", spec := "phaseCosts", unfollowed := true, recurses := true, named := ["unicode/utf8.first", "unicode/utf8.acceptRanges"], apart := false, laid := [("unicode/utf8.acceptRanges", laid_unicode_utf8_acceptRanges), ("unicode/utf8.first", laid_unicode_utf8_first)], narrowed := true }
def PhaseCostsUptoSaid : Prop := phaseCostsUptoRow.holds Tryz.pinned (OpenSpec.upto phaseCostsSpec)

end Rows
end Go.Proofs.YtgjddnaidjbhlaaGreatDoor
